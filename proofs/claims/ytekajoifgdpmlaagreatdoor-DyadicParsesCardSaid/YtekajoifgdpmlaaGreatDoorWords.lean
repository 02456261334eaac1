/- Words for memory: a slice of uint32 that reads as a list of natural numbers; blocks that are known whole; what a call makes. Plain lemmas on worlds; no program. -/
import Derived.Test.YtekajoifgdpmlaaGreatDoorMath
import Derived.WalkKit
import Derived.WalkSpells
import Derived.WalkLawsBesides
import Derived.Lib.Hide
import Derived.Deep.Draws
import Derived.Maps.AppendAt
import Derived.Deep.AppendLies
namespace Go.Proofs.YtekajoifgdpmlaaGreatDoor
open Go.RowKit Pl

theorem block_of_add (a : Addr) (n : Nat) : (a.add n).block = a.block := by unfold Addr.add; split <;> rfl
theorem add_of_add (a : Addr) (i j : Nat) : (a.add i).add j = a.add (i + j) := by
  unfold Addr.add
  by_cases hi : i = 0 <;> by_cases hj : j = 0 <;> simp [hi, hj, Nat.add_assoc]
theorem add_mk (g i : Nat) : (⟨g, 0, none⟩ : Addr).add i = ⟨g, i, none⟩ := by
  unfold Addr.add
  split
  · subst_vars; rfl
  · simp

/-- A cell of a row of uint32. -/
def u32 (x : Nat) : Value := .int .u32 (x : Int)

theorem below_drewN {B : Nat} {a w : World} (h : Below B a w) (n : Nat) : Below B a (w.drewN n) := ⟨h.os, h.tape, h.output, h.size, h.block⟩
theorem bcell {B : Nat} {W w1 : World} (hb : Below B W w1) : (∀ b o, b < B → w1.cell? ⟨b, o, none⟩ = W.cell? ⟨b, o, none⟩) ∧ (∀ b o, b < B → w1.frozen? ⟨b, o, none⟩ = W.frozen? ⟨b, o, none⟩) :=
  ⟨fun b o h => hb.cell (p := ⟨b, o, none⟩) h, fun b o h => hb.frozen (p := ⟨b, o, none⟩) h⟩
/-- From the world of a call to its caller's: a callee that leaves what was there. -/
theorem bthen {B : Nat} {a b c : World} (h : Below B a b) (k : Below b.heap.size b c) (hB : B ≤ a.heap.size) : Below B a c := h.trans (k.mono (Nat.le_trans hB h.size))

theorem ballo (w : World) (o : Obj) : Below w.heap.size w (w.alloc o) := (Below.refl _ _).alloc (Nat.le_refl _) _
theorem bnext {a b c : World} (h : Below a.heap.size a b) (k : Below b.heap.size b c) : Below a.heap.size a c := h.trans (k.mono h.size)

/-- The slice value '.slice A n c' reads, in w, as the limbs l. -/
structure SL (w : World) (A : Option Addr) (n c : Nat) (l : List Nat) : Prop where
  len : l.length = n
  cap : n ≤ c
  max : c ≤ 9223372036854775807
  lt : Limbs l
  at_ : 0 < n → ∃ b off, A = some ⟨b, off, none⟩ ∧ b < w.heap.size ∧ ∀ (j x : Nat), l[j]? = some x → w.cell? ⟨b, off + j, none⟩ = some (.int .u32 (x : Int))

/-- The slice lies in a block that is not older than B (or has no element). -/
def Fresh (B : Nat) (A : Option Addr) (n : Nat) : Prop := 0 < n → ∃ ad, A = some ad ∧ B ≤ ad.block

section
variable {w w' : World} {A : Option Addr} {n c : Nat} {l : List Nat}
theorem SL.get (h : SL w A n c l) {k : Nat} (hk : k < n) : ∃ (b off x : Nat), A = some ⟨b, off, none⟩ ∧ b < w.heap.size ∧ l[k]? = some x ∧ w.cell? ⟨b, off + k, none⟩ = some (.int .u32 (x : Int)) ∧ x < 4294967296 := by
  obtain ⟨b, off, e, hb, hc⟩ := h.at_ (by omega)
  have hl : k < l.length := by have := h.len; omega
  exact ⟨b, off, l[k], e, hb, List.getElem?_eq_getElem hl, hc k _ (List.getElem?_eq_getElem hl), h.lt _ (List.getElem_mem hl)⟩
/-- The same under a known address. -/
theorem SL.get' {b off : Nat} (h : SL w (some ⟨b, off, none⟩) n c l) {k : Nat} (hk : k < n) : ∃ (x : Nat), b < w.heap.size ∧ l[k]? = some x ∧ w.cell? ⟨b, off + k, none⟩ = some (.int .u32 (x : Int)) ∧ x < 4294967296 := by
  obtain ⟨b', off', x, e, r⟩ := h.get hk
  injection e with e
  injection e with e1 e2
  subst e1 e2
  exact ⟨x, r⟩
theorem SL.keep (h : SL w A n c l) (hs : w.heap.size ≤ w'.heap.size) (hk : ∀ p : Addr, p.block < w.heap.size → w'.cell? p = w.cell? p) : SL w' A n c l :=
  ⟨h.len, h.cap, h.max, h.lt, fun hn => by
    obtain ⟨b, off, e, hb, hc⟩ := h.at_ hn
    exact ⟨b, off, e, by omega, fun j u hu => (hk _ hb).trans (hc j u hu)⟩⟩
theorem SL.below (h : SL w A n c l) (hb : Below w.heap.size w w') : SL w' A n c l := h.keep hb.size fun _ hp => hb.cell hp
theorem SL.alloc (h : SL w A n c l) (o : Obj) : SL (w.alloc o) A n c l := h.below ((Below.refl _ _).alloc (Nat.le_refl _) _)
theorem SL.drew (h : SL w A n c l) : SL w.drew A n c l := ⟨h.len, h.cap, h.max, h.lt, h.at_⟩
theorem SL.drewN (h : SL w A n c l) (k : Nat) : SL (w.drewN k) A n c l := ⟨h.len, h.cap, h.max, h.lt, h.at_⟩
theorem SL.take (h : SL w A n c l) {k : Nat} (hk : k ≤ n) : SL w A k c (l.take k) :=
  ⟨by rw [List.length_take, h.len]; omega, by have := h.cap; omega, h.max, h.lt.take k, fun hn => by
    obtain ⟨b, off, e, hb, hc⟩ := h.at_ (by omega)
    refine ⟨b, off, e, hb, fun j x hx => hc j x ?_⟩
    by_cases hj : j < k
    · rwa [List.getElem?_take_of_lt hj] at hx
    · rw [List.getElem?_take_eq_none (by omega)] at hx; cases hx⟩
theorem SL.trim (h : SL w A n c l) : SL w A (digs (val l)).length c (digs (val l)) := by
  have h1 := digs_val_len l h.lt
  have h2 := h.len
  have := h.take (k := (digs (val l)).length) (by omega)
  rwa [digs_take l h.lt] at this
theorem SL.clip (h : SL w A n c l) : SL w A n n l := ⟨h.len, Nat.le_refl _, by have := h.cap; have := h.max; omega, h.lt, h.at_⟩
theorem SL.nil (w : World) : SL w none 0 0 [] := ⟨rfl, by omega, by omega, Limbs.nil, fun h => absurd h (by omega)⟩
/-- A cut 's[k:]' with an element left. -/
theorem SL.drop {b off : Nat} (h : SL w (some ⟨b, off, none⟩) n c l) {k : Nat} (hk : k ≤ n) : SL w (some ⟨b, off + k, none⟩) (n - k) (c - k) (l.drop k) := by
  have hc := h.cap
  refine ⟨by rw [List.length_drop, h.len], by omega, by have := h.max; omega, h.lt.drop k, fun hn => ?_⟩
  obtain ⟨b', off', e, hb, hcell⟩ := h.at_ (by omega)
  injection e with e
  injection e with e1 e2
  subst e1 e2
  refine ⟨_, _, rfl, hb, fun j u hu => ?_⟩
  rw [Nat.add_assoc]
  exact hcell _ u (by rw [← hu, List.getElem?_drop])
theorem SL.empty (h : SL w A n c l) (h0 : n = 0) : l = [] := List.eq_nil_of_length_eq_zero (by rw [h.len, h0])
theorem SL.one (w : World) (t : TypeId) (x : Nat) (hx : x < 4294967296) : SL (w.alloc (.cells #[.int .u32 (x : Int)] t)) (some ⟨w.heap.size, 0, none⟩) 1 1 [x] :=
  ⟨rfl, by omega, by omega, Limbs.single hx, fun _ => ⟨_, _, rfl, by simp, fun j y hy => by
    rcases j with _ | j
    · simp at hy; subst hy; simp
    · simp at hy⟩⟩
theorem SL.oneI (w : World) (t : TypeId) (z : Int) (x : Nat) (hz : z = (x : Int)) (hx : x < 4294967296) : SL (w.alloc (.cells #[.int .u32 z] t)) (some ⟨w.heap.size, 0, none⟩) 1 1 [x] := by
  subst hz; exact SL.one w t x hx
theorem Fresh.mono {B B' : Nat} (h : Fresh B A n) (hB : B' ≤ B) : Fresh B' A n := fun hn => by
  obtain ⟨ad, e, hb⟩ := h hn
  exact ⟨ad, e, by omega⟩
theorem Fresh.less {B m : Nat} (h : Fresh B A n) (hm : m ≤ n) : Fresh B A m := fun hn => h (by omega)
theorem Fresh.zero {B : Nat} : Fresh B A 0 := fun h => absurd h (by omega)
end

/-- Block g is just the cells cs of element type t, none frozen. -/
def Blk (w : World) (g : Nat) (t : TypeId) (cs : Array Value) : Prop := w.heap[g]? = some (.cells cs t (0, 0))
section
variable {w w' : World} {g : Nat} {t : TypeId} {cs : Array Value}
theorem Blk.lt (h : Blk w g t cs) : g < w.heap.size := by
  rcases Nat.lt_or_ge g w.heap.size with hlt | hge
  · exact hlt
  · unfold Blk at h; rw [Array.getElem?_eq_none hge] at h; cases h
theorem Blk.cell (h : Blk w g t cs) (i : Nat) : w.cell? ⟨g, i, none⟩ = cs[i]? := by
  unfold Blk at h
  simp [World.cell?, h]
theorem Blk.frozen (h : Blk w g t cs) (i : Nat) : w.frozen? ⟨g, i, none⟩ = false := by
  unfold Blk at h
  simp [World.frozen?, h]
theorem Blk.new (w : World) (t : TypeId) (cs : Array Value) : Blk (w.alloc (.cells cs t)) w.heap.size t cs := heap_alloc_new w _
theorem Blk.drew (h : Blk w g t cs) : Blk w.drew g t cs := h
theorem Blk.drewN (h : Blk w g t cs) (n : Nat) : Blk (w.drewN n) g t cs := h
theorem Blk.alloc (h : Blk w g t cs) (o : Obj) : Blk (w.alloc o) g t cs := (Below.heap_alloc w o g h.lt).trans h
theorem Blk.set_ (h : Blk w g t cs) (i : Nat) (u : Value) : Blk (w.setCell ⟨g, i, none⟩ u) g t (cs.setIfInBounds i u) := by
  unfold Blk at h ⊢
  simp [World.setCell, Array.getElem?_modify, h]
theorem Blk.far (h : Blk w g t cs) {p : Addr} (hp : g ≠ p.block) (u : Value) : Blk (w.setCell p u) g t cs := (Below.heap_setCell w p u g hp).trans h
theorem Blk.below {B : Nat} (h : Blk w g t cs) (hb : Below B w w') (hg : g < B) : Blk w' g t cs := (hb.block g hg).trans h
end

/-- Block g is a row of the limbs l. -/
def Row (w : World) (g : Nat) (t : TypeId) (l : List Nat) : Prop := Blk w g t (l.map u32).toArray
section
variable {w w' : World} {g : Nat} {t : TypeId} {l : List Nat}
theorem Row.cell (h : Row w g t l) {i x : Nat} (hi : l[i]? = some x) : w.cell? ⟨g, i, none⟩ = some (.int .u32 (x : Int)) := by
  rw [Blk.cell h i]; simp [hi, u32]
theorem Row.set_ (h : Row w g t l) (i x : Nat) : Row (w.setCell ⟨g, i, none⟩ (.int .u32 (x : Int))) g t (l.set i x) := by
  have := Blk.set_ h i (u32 x)
  unfold Row
  rw [show (List.map u32 (l.set i x)).toArray = (l.map u32).toArray.setIfInBounds i (u32 x) from by simp [List.map_set]]
  exact this
theorem Row.sl (h : Row w g t l) (hl : Limbs l) {n : Nat} (hn : l.length = n) (hm : n ≤ 9223372036854775807) : SL w (some ⟨g, 0, none⟩) n n l :=
  ⟨hn, Nat.le_refl _, hm, hl, fun _ => ⟨_, _, rfl, Blk.lt h, fun j x hx => by rw [Nat.zero_add]; exact h.cell hx⟩⟩
end

/-- A row of limbs that the call owns, or nil. -/
def Own (w : World) (base : Nat) (t : TypeId) (v : Value) (l : List Nat) : Prop := w.ownsRow base t 1 v l.length (l.map u32)
section
variable {w w' : World} {base : Nat} {t : TypeId} {v : Value} {l : List Nat}
theorem Own.sl (h : Own w base t v l) (hl : Limbs l) : ∃ A c, v = .slice A l.length c ∧ SL w A l.length c l ∧ Fresh base A l.length := by
  rcases h.2 with ⟨rfl, h0⟩ | ⟨g, cap, cur, rfl, hb, hh, hn, hc, hs, hx⟩
  · have : l = [] := List.eq_nil_of_length_eq_zero h0
    subst this
    exact ⟨none, 0, rfl, SL.nil _, Fresh.zero⟩
  · refine ⟨_, _, rfl, ⟨rfl, hn, by simpa [maxLen] using hc, hl, fun _ => ⟨_, _, rfl, Blk.lt hh, fun j x hx' => ?_⟩⟩, fun _ => ⟨_, rfl, hb⟩⟩
    rw [Nat.zero_add, Blk.cell hh j]
    have hj : j < l.length := by
      rcases Nat.lt_or_ge j l.length with h' | h'
      · exact h'
      · rw [List.getElem?_eq_none h'] at hx'; cases hx'
    have e : (cur.toList.take (l.length * 1))[j]? = (l.map u32)[j]? := by rw [hx]
    rw [List.getElem?_take_of_lt (by omega)] at e
    rw [← Array.getElem?_toList, e]
    simp [hx', u32]
theorem Own.nil (w : World) (base : Nat) (t : TypeId) : Own w base t (.slice none 0 0) [] := ⟨rfl, .inl ⟨rfl, rfl⟩⟩
theorem Own.alloc (h : Own w base t v l) (o : Obj) : Own (w.alloc o) base t v l := World.ownsRow.alloc h o
theorem Own.drew (h : Own w base t v l) : Own w.drew base t v l := h
theorem Own.keep (h : Own w base t v l) {B : Nat} (hb : Below B w w') (hB : ∀ g, v.ownBlock = some g → g < B) : Own w' base t v l := by
  refine ⟨h.1, ?_⟩
  rcases h.2 with ⟨rfl, h0⟩ | ⟨g, cap, cur, rfl, hb', hh, r⟩
  · exact .inl ⟨rfl, h0⟩
  · exact .inr ⟨g, cap, cur, rfl, hb', (hb.block g (hB g rfl)).trans hh, r⟩
theorem Own.lt (h : Own w base t v l) : ∀ g, v.ownBlock = some g → g < w.heap.size ∧ base ≤ g := by
  intro g hg
  rcases h.2 with ⟨rfl, _⟩ | ⟨g', cap, cur, rfl, hb', hh, _⟩
  · cases hg
  · injection hg with hg
    subst hg
    exact ⟨Blk.lt hh, hb'⟩
theorem Own.row {g : Nat} (h : Row w g t l) (hb : base ≤ g) (hm : l.length ≤ 9223372036854775807) : Own w base t (.slice (some ⟨g, 0, none⟩) l.length l.length) l :=
  ⟨by simp, .inr ⟨g, l.length, _, rfl, hb, h, Nat.le_refl _, by simpa [maxLen] using hm, by simp, by rw [Nat.mul_one, List.take_of_length_le (by simp)]⟩⟩
end

section
variable {P : Program}
/-- append onto a row of limbs that the call owns. -/
theorem wpList_app {w : World} {ops : Array Oper} {rest : List Oper} {o : Oper} {a : Act} {Q : Exit → Act → World → Prop} (hgd : o.guard = none) (s x : Operand) (t : TypeId)
    (ho : o.op = .call { callee := .builtin .append, args := #[s, x], argTypes := #[t, t] })
    (e : TypeId) (hinfo : (P.info? e).map (fun i => (i.zero, i.size, i.bytes)) = some (some (.int .u32 0), 1, 4)) (ht : P.underlying t = some (.slice e))
    (base : Nat) (v : Value) (l : List Nat) (hs : a.eval s = v) (hown : Own w base e v l)
    (A : Option Addr) (m c : Nat) (news : List Nat) (hx : a.eval x = .slice A m c) (hr : SL w A m c news) (hlen : l.length + m ≤ 1099511627776) (hbase : base ≤ w.heap.size)
    (h : ∀ v' w', Own w' base e v' (l ++ news) → Below base w w' → wpList P ops Q rest (a.put o.dst v') w') : wpList P ops Q (o :: rest) a w := by
  obtain ⟨i, hi, hz, hsize, hby⟩ := info_parts hinfo
  have fin : ∀ v' w', w'.ownsRow base e 1 v' (l.length + m) (l.map u32 ++ news.map u32) → w.grownBy w' v.ownBlock → wpList P ops Q rest (a.put o.dst v') w' := by
    intro v' w' h1 h2
    refine h v' w' ?_ ((Below.refl _ _).grown h2 hbase (fun k hk => (hown.lt k hk).2))
    unfold Own
    rw [List.length_append, hr.len, List.map_append]
    exact h1
  rcases A with _ | ad
  · have hm : m = 0 := by
      rcases Nat.eq_zero_or_pos m with h0 | h0
      · exact h0
      · obtain ⟨_, _, h, _⟩ := hr.at_ h0
        cases h
    subst hm
    have hn : news = [] := hr.empty rfl
    subst hn
    refine wpList_plain hgd fun K hK => ?_
    have hrun : (Builtin.append_ #[t, t] o.type #[v, .slice none 0 c]).run P w = .ok v w := by
      rcases hown.2 with ⟨rfl, _⟩ | ⟨g, cap, cur, rfl, _, _, hnc, _⟩
      · simp [Builtin.append_, run_underlying ht, sizeOf, typeInfo, hi, Builtin.lenOf, Builtin.firstCells]
      · simp [Builtin.append_, run_underlying ht, sizeOf, typeInfo, hi, Builtin.lenOf, Builtin.firstCells, hnc, storeCells]
    unfold Oper.wp execOp
    simp only [ho, resolve, invoke, builtin, Sem.run_bind, Sem.run_pure, Result.andThen_ok, List.map_toArray, List.map_cons, List.map_nil, hs, hx, hrun]
    exact hK _ _ (fin v w (by unfold Own at hown; simpa using hown) (World.grownBy.refl w _))
  · have hcells : ∀ j u, (news.map u32)[j]? = some u → w.cell? (ad.add j) = some u := by
      intro j u hu
      rw [List.getElem?_map] at hu
      cases hx' : news[j]? with
      | none => rw [hx'] at hu; cases hu
      | some y =>
        rw [hx'] at hu
        have hj : 0 < m := by
          rw [← hr.len]
          rcases Nat.lt_or_ge j news.length with h' | h'
          · omega
          · rw [List.getElem?_eq_none h'] at hx'; cases hx'
        obtain ⟨b', off', e', _, hc⟩ := hr.at_ hj
        injection e' with e'
        subst e'
        rw [show (Addr.add ⟨b', off', none⟩ j) = ⟨b', off' + j, none⟩ from by unfold Addr.add; split <;> simp [*], hc j y hx']
        simpa [u32] using hu
    exact wpList_append_own _ hgd s x t ho base e i (.int .u32 0) 1 4 ht hi hz hsize hby rfl (by omega) v l.length (l.map u32) hs hown ad m c (news.map u32) hx (by simp [hr.len]) hcells
      (by intro u hu; obtain ⟨y, _, rfl⟩ := List.mem_map.1 hu; rfl) (by simp only [maxLen]; omega) (by omega) hbase (fun v' w' h1 h2 _ => fin v' w' h1 h2)
end


theorem madeCells_u32 (n : Nat) : madeCells (Value.int .u32 0).cells (n * 1) = ((List.replicate n 0).map u32).toArray := by
  apply Array.ext_getElem?
  intro i
  simp only [madeCells, Nat.mul_one, List.map_replicate, List.getElem?_toArray, Array.getElem?_map, Value.cells]
  by_cases h : i < n
  · simp [h, u32, Nat.mod_one]
  · simp [h]

section
variable {P : Program} {w : World} {ops : Array Oper} {rest : List Oper} {o : Oper} {a : Act} {Q : Exit → Act → World → Prop}
/-- make of limbs. -/
theorem wpList_mk (hg : o.guard = none) (l c : Operand) (t e : TypeId) (hop : o.op = Op.makeSlice t l c)
    (hinfo : (P.info? e).map (fun i => (i.zero, i.size, i.bytes)) = some (some (.int .u32 0), 1, 4)) (ht : P.underlying t = some (.slice e))
    (kl kc : IntKind) (L C : Int) (n m : Nat) (hl : a.eval l = .int kl L) (hc : a.eval c = .int kc C) (hL : L = (n : Int)) (hC : C = (m : Int)) (hnm : n ≤ m) (hm : m ≤ 1099511627776)
    (hK : ∀ w1, Row w1 w.heap.size e (List.replicate m 0) → Below w.heap.size w w1 → w1.heap.size = w.heap.size + 1 → wpList P ops Q rest (a.put o.dst (.slice (some ⟨w.heap.size, 0, none⟩) n m)) w1) :
    wpList P ops Q (o :: rest) a w := by
  obtain ⟨i, hi, hz, hsize, hby⟩ := info_parts hinfo
  refine wpList_plain hg fun K hK' => ?_
  have hrun := run_make (P := P) w t e i (.int .u32 0) ht hi hz kl kc (n : Int) (m : Int) (by omega) (by omega) (by rw [hby]; omega) (by omega)
  simp only [Int.toNat_natCast, hsize, madeCells_u32] at hrun
  unfold Oper.wp execOp
  simp only [hop, hl, hc, hL, hC, Sem.run_bind, Sem.run_pure, Result.andThen_ok, hrun]
  refine hK' _ _ (hK _ (Blk.new _ _ _) ((Below.refl _ _).alloc (Nat.le_refl _) _) (by simp))
end

theorem Own.made {w : World} {g base : Nat} {t : TypeId} {n m : Nat} (h : Row w g t (List.replicate m 0)) (hb : base ≤ g) (hnm : n ≤ m) (hm : m ≤ 9223372036854775807) :
    Own w base t (.slice (some ⟨g, 0, none⟩) n m) (List.replicate n 0) := by
  refine ⟨by simp, .inr ⟨g, m, _, ?_, hb, h, ?_, by simpa [maxLen] using hm, by simp, ?_⟩⟩
  · rw [List.length_replicate]
  · rw [List.length_replicate]; exact hnm
  · rw [List.length_replicate, Nat.mul_one]
    simp [List.take_replicate, Nat.min_eq_left hnm]

end Go.Proofs.YtekajoifgdpmlaaGreatDoor
