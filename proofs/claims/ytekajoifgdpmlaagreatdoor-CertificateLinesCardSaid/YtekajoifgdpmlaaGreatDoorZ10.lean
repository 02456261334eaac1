/- Bundle 10: what the laws' walks stand on: G2, G3, C4, C5. -/
import Derived.Laws.EntriesVeiled
import Derived.Test.YtekajoifgdpmlaaGreatDoorZ5
import Derived.Test.YtekajoifgdpmlaaGreatDoorZ7
import Derived.Test.YtekajoifgdpmlaaGreatDoorZ9
/-! G2 -/
namespace Go.Proofs.YtekajoifgdpmlaaGreatDoor
open Go.RowKit Pl Go.Shelf

def numsT (l : List Dy) : List UInt8 := l.flatMap (fun d => 32 :: textD d)
def lineT (word : List UInt8) (l : List Dy) : List UInt8 := word ++ numsT l ++ [10]
theorem numsT_take {l : List Dy} {k : Nat} {d : Dy} (h : l[k]? = some d) : numsT (l.take (k + 1)) = numsT (l.take k) ++ (32 :: textD d) := by
  unfold numsT
  rw [List.take_add_one, h]
  simp
theorem textD_len {d : Dy} (hv : vld d = true) : (textD d).length ≤ 1250 := text_len hv
theorem numsT_len : ∀ {l : List Dy}, (∀ d ∈ l, vld d = true) → (numsT l).length ≤ 1251 * l.length := by
  intro l
  induction l with
  | nil => intro _; simp [numsT]
  | cons d l ih =>
    intro h
    have h1 := textD_len (h d (by simp))
    have h2 := ih (fun x hx => h x (by simp [hx]))
    unfold numsT at h2 ⊢
    simp only [List.flatMap_cons, List.length_append, List.length_cons]
    omega
theorem lineT_len {word : List UInt8} {l : List Dy} (h : ∀ d ∈ l, vld d = true) : (lineT word l).length ≤ word.length + 1 + 1251 * l.length := by
  have := numsT_len h
  unfold lineT
  simp only [List.length_append, List.length_singleton]
  omega

set_option maxRecDepth 100000 in
set_option maxHeartbeats 4000000 in
theorem enumbers_any (B b : Nat) (l word : List UInt8) (A : Option Addr) (n c : Nat) (ns : List Dy) (w : World) (hb : Bu B b l w) (hB : B ≤ w.heap.size) (hS : ∀ W, KB B b w W → Sl 3 RD W A n c ns) (hT : ∀ W, KB B b w W → Tens W)
    (hv : ∀ d ∈ ns, vld d = true) (hl : l.length ≤ 100000000) (hw : word.length ≤ 100) (hn : n ≤ 1000) :
    Calls Tryz.prog 79 #[.pointer (some ⟨b, 0, none⟩), .string ⟨word.toArray⟩, .slice A n c] w fun e w' => e = .returned (.tuple #[]) ∧ Bu B b (l ++ lineT word ns) w' ∧ KB B b w w' := by
  have h0 := hS w (KB.refl _ _ _)
  have m1 := h0.cap
  have m2 := h0.max
  have HL := Lib.hid h0.len
  have HS := Lib.hid hS
  have HT := Lib.hid hT
  have HV := Lib.hid hv
  have HB := Lib.hid hb
  clear h0 hS hT hv hb
  go_enter Tryz.func79, Tryz.ntmps79
  go_wp2_with fail
  refine (writeString_K B b l word _ HB.out (by omega) hB).mono ?_
  rintro e w1 ⟨rfl, hb1, kb⟩
  clear HB
  go_wp2_with fail
  go_loopw [15] (fun v wr => ∃ (k : Nat) (L : List UInt8), k ≤ n ∧ v = .int .i64 k ∧ Hid (L = l ++ word ++ numsT (ns.take k)) ∧ Hid (Bu B b L wr) ∧ Hid (KB B b w wr) ∧ L.length ≤ 100000100 + 1251 * k) (fun v _ => n - (intOf v).toNat)
  case atStart => exact ⟨0, l ++ word, by omega, rfl, by simp [Hid, numsT], hb1, kb, by simp; omega⟩
  case round =>
    clear hb1 kb
    obtain ⟨k, L, hk, rfl, HE, HB, HK, hLl⟩ := hrel
    have hBr : B ≤ wr.heap.size := Nat.le_trans hB HK.out.size
    by_cases hlt : k < n
    · obtain ⟨b1, off, d, vs, rfl, hbl, hd, hk1, hR, hc⟩ := (HS.out wr HK.out).get hlt
      have hvd := HV.out d (List.mem_of_getElem? hd)
      have hL2 : (L ++ (32 :: textD d)).length ≤ 100000100 + 1251 * (k + 1) := by have := textD_len hvd; simp; omega
      have HE2 : Hid (L ++ (32 :: textD d) = l ++ word ++ numsT (ns.take (k + 1))) := by unfold Hid; rw [HE.out, numsT_take hd]; simp
      have HVD := Lib.hid hvd
      obtain ⟨DA, dm, dc, rfl, hsd⟩ := hR
      obtain ⟨dn, dl, de⟩ := d
      dsimp only at hsd hc
      have p0 := hc 0 _ rfl
      have p1 := hc 1 _ rfl
      have p2 := hc 2 _ rfl
      rw [Nat.add_zero] at p0
      (try dsimp only at p0 p1 p2)
      have ht := textD_len hvd
      clear hc hk1 hd hvd HE
      have hb1 := ballo wr (.cells #[.bool dn, .slice DA dm dc, .int .i64 de] 25)
      have hs1 := hsd.below hb1
      have HB1 := Lib.hid (HB.out.next hb1)
      have HK1 := Lib.hid (HK.out.trans (KB.of hBr hb1))
      have hBr1 : B ≤ (wr.alloc (.cells #[.bool dn, .slice DA dm dc, .int .i64 de] 25)).heap.size := Nat.le_trans hBr hb1.size
      clear hb1 hsd HB HK
      go_wp2_with fail
      clear p0 p1 p2
      generalize wr.alloc (.cells #[.bool dn, .slice DA dm dc, .int .i64 de] 25) = W1 at *
      refine (dtext_ok dn DA dm dc dl de _ hs1 HVD.out (HT.out _ HK1.out)).mono ?_
      generalize textD ⟨dn, dl, de⟩ = T at *
      rintro e w2 ⟨rfl, hb2⟩
      have HB2 := Lib.hid (HB1.out.next hb2)
      have HK2 := Lib.hid (HK1.out.trans (KB.of hBr1 hb2))
      have hBr2 := Nat.le_trans hBr1 hb2.size
      clear hb2 HB1 HK1 hs1
      go_wp2_with fail
      refine (writeString_K B b L (32 :: T) _ HB2.out (by simp at hL2 ⊢; omega) hBr2).mono ?_
      rintro e w3 ⟨rfl, hb3, hk3⟩
      have HB3 := Lib.hid hb3
      have HK3 := Lib.hid (HK2.out.trans hk3)
      clear hb3 hk3
      go_wp2_with fail
      go_roundw
      case rel => exact ⟨k + 1, L ++ (32 :: T), by omega, by go_num, HE2, HB3, HK3, by omega⟩
      case measure => simp [intOf]; omega
    · obtain rfl : k = n := by omega
      have HE2 : Hid (L ++ [10] = l ++ lineT word ns) := by
        unfold Hid lineT
        rw [HE.out, List.take_of_length_le (by rw [HL.out]; exact Nat.le_refl _)]
        simp
      go_wp2_with fail
      refine (writeString_K B b L [10] _ HB.out (by simp; omega) hBr).mono ?_
      rintro e w3 ⟨rfl, hb3, hk3⟩
      rw [HE2.out] at hb3
      have HB3 := Lib.hid hb3
      have HK3 := Lib.hid (HK.out.trans hk3)
      clear hb3 hk3
      go_wp2_with fail
      go_end0
      exact ⟨rfl, HB3.out, HK3.out⟩

end Go.Proofs.YtekajoifgdpmlaaGreatDoor

/-! G3 -/
namespace Go.Proofs.YtekajoifgdpmlaaGreatDoor
open Go.RowKit Pl Go.Shelf

/-- A row of elements (k cells each) of the type e that the call owns, or nil. -/
structure OwnK (e : TypeId) (k : Nat) (w : World) (base : Nat) (v : Value) (fs : List (List Value)) : Prop where
  own : w.ownsRow base e k v fs.length fs.flatten
  len : ∀ f ∈ fs, f.length = k
section
variable {e : TypeId} {k : Nat} {w w' : World} {base : Nat} {v : Value} {fs : List (List Value)}
theorem OwnK.nil (e : TypeId) (k : Nat) (w : World) (base : Nat) : OwnK e k w base (.slice none 0 0) [] := ⟨⟨by simp, .inl ⟨rfl, rfl⟩⟩, by simp⟩
theorem OwnK.next (h : OwnK e k w base v fs) (hb : Below w.heap.size w w') : OwnK e k w' base v fs := by
  refine ⟨⟨h.own.1, ?_⟩, h.len⟩
  rcases h.own.2 with hn | ⟨g, cap, cur, hv, hbg, hg, rest⟩
  · exact .inl hn
  · exact .inr ⟨g, cap, cur, hv, hbg, (hb.block g (Array.getElem?_eq_some_iff.1 hg).1).trans hg, rest⟩
theorem OwnK.kb {B b : Nat} (h : OwnK e k w base v fs) (hk : KB B b w w') (hb : b < base) (he : e ≠ 5) : OwnK e k w' base v fs := by
  refine ⟨⟨h.own.1, ?_⟩, h.len⟩
  rcases h.own.2 with hn | ⟨g, cap, cur, hv, hbg, hg, rest⟩
  · exact .inl hn
  · exact .inr ⟨g, cap, cur, hv, hbg, hk.blk hg (by omega) he, rest⟩
theorem OwnK.form (h : OwnK e k w base v fs) : ∃ A c, v = .slice A fs.length c ∧ fs.length ≤ c ∧ c ≤ 9223372036854775807 := by
  rcases h.own.2 with ⟨rfl, h0⟩ | ⟨g, cap, cur, rfl, hbg, hg, h1, h2, _⟩
  · exact ⟨none, 0, by rw [h0], by omega, by omega⟩
  · exact ⟨_, cap, rfl, h1, by simpa [maxLen] using h2⟩
theorem flatten_get {fs : List (List Value)} {k : Nat} (h : ∀ f ∈ fs, f.length = k) : ∀ (j i : Nat) (f : List Value) (u : Value), fs[j]? = some f → f[i]? = some u → fs.flatten[j * k + i]? = some u := by
  induction fs with
  | nil => intro j i f u hj; simp at hj
  | cons a fs ih =>
    intro j i f u hj hi
    have ha := h a (by simp)
    cases j with
    | zero =>
      simp at hj
      subst hj
      have : i < a.length := (List.getElem?_eq_some_iff.1 hi).1
      rw [List.flatten_cons, List.getElem?_append_left (by omega)]
      simpa using hi
    | succ j =>
      rw [List.flatten_cons, List.getElem?_append_right (by rw [ha, Nat.succ_mul]; omega), ha, show (j + 1) * k + i - k = j * k + i by rw [Nat.succ_mul]; omega]
      exact ih (fun f hf => h f (by simp [hf])) j i f u (by simpa using hj) hi
theorem flatten_len {k : Nat} : ∀ {fs : List (List Value)}, (∀ f ∈ fs, f.length = k) → fs.flatten.length = fs.length * k := by
  intro fs
  induction fs with
  | nil => intro _; simp
  | cons f fs ih =>
    intro h
    have := ih (fun g hg => h g (by simp [hg]))
    rw [List.flatten_cons, List.length_append, List.length_cons, this, h f (by simp), Nat.succ_mul]
    omega
theorem OwnK.sl {α : Type} {R : World → List Value → α → Prop} {xs : List α} (h : OwnK e k w base v fs) (hx : xs.length = fs.length) (hR : ∀ (j : Nat) (f : List Value) (x : α), fs[j]? = some f → xs[j]? = some x → R w f x) :
    ∃ A c, v = .slice A fs.length c ∧ Sl k R w A fs.length c xs := by
  rcases h.own.2 with ⟨rfl, h0⟩ | ⟨g, cap, cur, rfl, hbg, hg, h1, h2, h3, h4⟩
  · have hn : xs = [] := List.eq_nil_of_length_eq_zero (by omega)
    subst hn
    exact ⟨none, 0, by rw [h0], by rw [h0]; exact Sl.nil _⟩
  · refine ⟨_, cap, rfl, hx, h1, by simpa [maxLen] using h2, fun _ => ⟨g, 0, rfl, (Array.getElem?_eq_some_iff.1 hg).1, fun j x hj => ?_⟩⟩
    have hjl : j < fs.length := by have := (List.getElem?_eq_some_iff.1 hj).1; omega
    have hf : fs[j]? = some fs[j] := List.getElem?_eq_getElem hjl
    refine ⟨fs[j], h.len _ (List.getElem_mem hjl), hR j _ x hf hj, fun i u hu => ?_⟩
    rw [Nat.zero_add, Blk.cell hg]
    have h5 := flatten_get h.len j i _ u hf hu
    rw [← h4] at h5
    have hlt : j * k + i < fs.length * k := by
      have := (List.getElem?_eq_some_iff.1 h5).1
      simp only [List.length_take] at this
      omega
    rw [List.getElem?_take_of_lt hlt] at h5
    simpa using h5
theorem OwnK.lt (h : OwnK e k w base v fs) : ∀ g, v.ownBlock = some g → base ≤ g ∧ g < w.heap.size := h.own.lt
theorem OwnK.alloc (h : OwnK e k w base v fs) (o : Obj) : OwnK e k (w.alloc o) base v fs := h.next (ballo _ _)
end

section
variable {P : Program}
theorem wpList_appK {w : World} {ops : Array Oper} {rest : List Oper} {o : Oper} {a : Act} {Q : Exit → Act → World → Prop} (hgd : o.guard = none) (s x : Operand) (t : TypeId)
    (ho : o.op = .call { callee := .builtin .append, args := #[s, x], argTypes := #[t, t] })
    (e : TypeId) (k bytes : Nat) (z : Value) (hinfo : (P.info? e).map (fun i => (i.zero, i.size, i.bytes)) = some (some z, k, bytes)) (hz : z.cells.size = k) (hk : 0 < k) (hby : bytes ≤ 1000) (ht : P.underlying t = some (.slice e))
    (base : Nat) (v : Value) (fs : List (List Value)) (hs : a.eval s = v) (hown : OwnK e k w base v fs)
    (ad : Addr) (m c : Nat) (news : List (List Value)) (hx : a.eval x = .slice (some ad) m c) (hm : news.length = m) (hn : ∀ f ∈ news, f.length = k) (hc : ∀ (j : Nat) (u : Value), news.flatten[j]? = some u → w.cell? (ad.add j) = some u) (h1 : ∀ u ∈ news.flatten, u.oneCell' = true)
    (hlen : fs.length + m ≤ 1000000000) (hbase : base ≤ w.heap.size)
    (h : ∀ v' w', OwnK e k w' base v' (fs ++ news) → Below base w w' → wpList P ops Q rest (a.put o.dst v') w') : wpList P ops Q (o :: rest) a w := by
  obtain ⟨i, hi, hz', hsize, hb'⟩ := info_parts hinfo
  have hfl : news.flatten.length = m * k := by rw [← hm]; exact flatten_len hn
  refine wpList_append_own _ hgd s x t ho base e i z k bytes ht hi hz' hsize hb' hz hk v fs.length fs.flatten hs hown.own ad m c news.flatten hx hfl hc h1 (by simp only [maxLen]; omega) ?_ hbase (fun v' w' h2 h3 _ => ?_)
  · exact Nat.le_trans (Nat.mul_le_mul hlen hby) (by omega)
  · refine h v' w' ⟨?_, ?_⟩ ((Below.refl _ _).grown h3 hbase (fun k hk => (hown.lt k hk).1))
    · rw [List.length_append, hm, List.flatten_append]; exact h2
    · intro f hf
      rcases List.mem_append.1 hf with hf | hf
      · exact hown.len f hf
      · exact hn f hf
end

theorem infoD : (Tryz.prog.info? 25).map (fun i => (i.zero, i.size, i.bytes)) = some (some (.agg #[.bool false, .slice none 0 0, .int .i64 0]), 3, 40) := by kernel_rfl

/-- Both ends of intervals. -/
def endsL (l : List Iv) : List Dy := l.flatMap (fun x => [x.lo, x.hi])
def endsV (us : List (List Value)) : List (List Value) := us.flatMap (fun u => [u.take 3, (u.drop 3).take 3])
theorem endsL_len (l : List Iv) : (endsL l).length = 2 * l.length := by
  induction l with
  | nil => rfl
  | cons x l ih => unfold endsL at ih ⊢; simp only [List.flatMap_cons, List.length_append, List.length_cons, List.length_nil, ih]; omega
theorem endsV_len (l : List (List Value)) : (endsV l).length = 2 * l.length := by
  induction l with
  | nil => rfl
  | cons x l ih => unfold endsV at ih ⊢; simp only [List.flatMap_cons, List.length_append, List.length_cons, List.length_nil, ih]; omega
/-- The cells of a slice's elements. -/
theorem Sl.cells {α : Type} {k : Nat} {R : World → List Value → α → Prop} {W : World} {A : Option Addr} {n c : Nat} {xs : List α} (h : Sl k R W A n c xs) : ∃ us : List (List Value), us.length = n ∧ (∀ u ∈ us, u.length = k) ∧ (0 < n → ∃ b off, A = some ⟨b, off, none⟩ ∧ b < W.heap.size ∧ ∀ (j : Nat) (u : List Value), us[j]? = some u → ∀ (i : Nat) (v : Value), u[i]? = some v → W.cell? ⟨b, off + j * k + i, none⟩ = some v) ∧ ∀ (j : Nat) (u : List Value) (x : α), us[j]? = some u → xs[j]? = some x → R W u x := by
  rcases Nat.eq_zero_or_pos n with h0 | h0
  · refine ⟨[], by simp [h0], by simp, fun h => absurd h (by omega), ?_⟩
    intro j u x hu
    simp at hu
  · obtain ⟨b, off, e, hb, hc⟩ := h.at_ h0
    have hex : ∀ j : Nat, ∃ vs : List Value, ∀ x, xs[j]? = some x → vs.length = k ∧ R W vs x ∧ ∀ (i : Nat) (v : Value), vs[i]? = some v → W.cell? ⟨b, off + j * k + i, none⟩ = some v := by
      intro j
      cases hx : xs[j]? with
      | none => exact ⟨[], fun x hx' => by cases hx'⟩
      | some x =>
        obtain ⟨vs, h1, h2, h3⟩ := hc j x hx
        exact ⟨vs, fun y hy => by injection hy with hy; subst hy; exact ⟨h1, h2, h3⟩⟩
    obtain ⟨f, hf⟩ := Classical.axiomOfChoice hex
    have hget : ∀ (j : Nat) (u : List Value), ((List.range n).map f)[j]? = some u → j < n ∧ u = f j := by
      intro j u hu
      have hj : j < n := by have := (List.getElem?_eq_some_iff.1 hu).1; simpa using this
      refine ⟨hj, ?_⟩
      rw [List.getElem?_map, List.getElem?_range hj] at hu
      simpa using hu.symm
    have hxj : ∀ j, j < n → ∃ x, xs[j]? = some x := fun j hj => ⟨_, List.getElem?_eq_getElem (by rw [h.len]; exact hj)⟩
    refine ⟨(List.range n).map f, by simp, ?_, fun _ => ⟨b, off, e, hb, ?_⟩, ?_⟩
    · intro u hu
      obtain ⟨j, hj⟩ := List.getElem?_of_mem hu
      obtain ⟨hj2, rfl⟩ := hget j u hj
      obtain ⟨x, hx⟩ := hxj j hj2
      exact (hf j x hx).1
    · intro j u hu i v hv
      obtain ⟨hj2, rfl⟩ := hget j u hu
      obtain ⟨x, hx⟩ := hxj j hj2
      exact (hf j x hx).2.2 i v hv
    · intro j u x hu hx
      obtain ⟨hj2, rfl⟩ := hget j u hu
      exact (hf j x hx).2.1

theorem endsV_take {us : List (List Value)} {k : Nat} {u : List Value} (h : us[k]? = some u) : endsV (us.take (k + 1)) = endsV (us.take k) ++ [u.take 3, (u.drop 3).take 3] := by
  unfold endsV
  rw [List.take_add_one, h]
  simp

set_option maxRecDepth 100000 in
set_option maxHeartbeats 4000000 in
theorem ends_any (A : Option Addr) (n c : Nat) (xs : List Iv) (us : List (List Value)) (w : World) (h : Sl 7 RI w A n c xs) (hn : n ≤ 1000) (hu : us.length = n)
    (hc : 0 < n → ∃ b off, A = some ⟨b, off, none⟩ ∧ b < w.heap.size ∧ ∀ (j : Nat) (u : List Value), us[j]? = some u → ∀ (i : Nat) (v : Value), u[i]? = some v → w.cell? ⟨b, off + j * 7 + i, none⟩ = some v)
    (hR : ∀ (j : Nat) (u : List Value) (x : Iv), us[j]? = some u → xs[j]? = some x → RI w u x) :
    Calls Tryz.prog 80 #[.slice A n c] w fun e w' => ∃ v, e = .returned v ∧ OwnK 25 3 w' w.heap.size v (endsV us) ∧ Below w.heap.size w w' := by
  have m1 := h.cap
  have m2 := h.max
  have HL := Lib.hid h.len
  have HU := Lib.hid hu
  have HC := Lib.hid hc
  have HR := Lib.hid hR
  clear h hu hc hR
  go_enter Tryz.func80, Tryz.ntmps80
  go_wp2_with fail
  go_loopw [3, 8] (fun v i wr => ∃ k : Nat, k ≤ n ∧ i = .int .i64 k ∧ Hid (OwnK 25 3 wr w.heap.size v (endsV (us.take k))) ∧ Hid (Below w.heap.size w wr)) (fun _ i _ => n - (intOf i).toNat)
  case atStart => exact ⟨0, by omega, rfl, OwnK.nil _ _ _ _, Below.refl _ _⟩
  case round =>
    obtain ⟨k, hk, rfl, HO, HB⟩ := hrel
    by_cases hlt : k < n
    · obtain ⟨b, off, rfl, hbl, hcell⟩ := HC.out (by omega)
      have hku : k < us.length := by rw [HU.out]; exact hlt
      have huk : us[k]? = some us[k] := List.getElem?_eq_getElem hku
      have hxk : xs[k]? = some (xs[k]'(by rw [HL.out]; exact hlt)) := List.getElem?_eq_getElem _
      have hRk := HR.out k _ _ huk hxk
      have hck := hcell k _ huk
      generalize us[k] = u at *
      generalize xs[k]'(by rw [HL.out]; exact hlt) = x at *
      obtain ⟨A1, n1, c1, A2, n2, c2, rfl, hs1, hs2⟩ := hRk
      have HT := Lib.hid (endsV_take huk)
      have q0 := (HB.out.cell (p := ⟨b, off + k * 7, none⟩) hbl).trans (hck 0 _ rfl)
      have q1 := (HB.out.cell (p := ⟨b, off + k * 7 + 1, none⟩) hbl).trans (hck 1 _ rfl)
      have q2 := (HB.out.cell (p := ⟨b, off + k * 7 + 2, none⟩) hbl).trans (hck 2 _ rfl)
      have q3 := (HB.out.cell (p := ⟨b, off + k * 7 + 3, none⟩) hbl).trans (hck 3 _ rfl)
      have q4 := (HB.out.cell (p := ⟨b, off + k * 7 + 4, none⟩) hbl).trans (hck 4 _ rfl)
      have q5 := (HB.out.cell (p := ⟨b, off + k * 7 + 5, none⟩) hbl).trans (hck 5 _ rfl)
      have q6 := (HB.out.cell (p := ⟨b, off + k * 7 + 6, none⟩) hbl).trans (hck 6 _ rfl)
      clear hck hcell huk hxk hs1 hs2
      generalize hk1 : endsV (us.take k) = E at *
      have hEl : E.length ≤ 2000 := by rw [← hk1, endsV_len, List.length_take]; omega
      clear hk1
      have hb1 := bnext (ballo wr (.cells #[.bool x.lo.neg, .slice A1 n1 c1, .int .i64 x.lo.e, .bool x.hi.neg, .slice A2 n2 c2, .int .i64 x.hi.e, .bool x.all] 87)) (ballo (wr.alloc (.cells #[.bool x.lo.neg, .slice A1 n1 c1, .int .i64 x.lo.e, .bool x.hi.neg, .slice A2 n2 c2, .int .i64 x.hi.e, .bool x.all] 87)) (.cells #[.bool x.lo.neg, .slice A1 n1 c1, .int .i64 x.lo.e, .bool x.hi.neg, .slice A2 n2 c2, .int .i64 x.hi.e] 25))
      have HO1 := Lib.hid (HO.out.next hb1)
      have HB1 := Lib.hid (bthen HB.out hb1 (Nat.le_refl _))
      have hsz := HB.out.size
      clear HO HB hb1
      go_wp2_with (at_builtin; go_loud (refine wpList_appK rfl _ _ 35 rfl 25 3 40 _ infoD rfl (by omega) (by omega) Tryz.underlying35 w.heap.size _ E rfl HO1.out ⟨wr.heap.size + 1, 0, none⟩ 2 2 [[.bool x.lo.neg, .slice A1 n1 c1, .int .i64 x.lo.e], [.bool x.hi.neg, .slice A2 n2 c2, .int .i64 x.hi.e]] rfl rfl ?c0 ?c1 ?c2 ?c3 ?c4 ?_))
      case c0 => intro f hf; simp at hf; rcases hf with rfl | rfl <;> rfl
      case c1 =>
        intro j u hj
        rw [add_mk]
        match j, hj with
        | 0, hj => simp at hj; subst hj; simp
        | 1, hj => simp at hj; subst hj; simp
        | 2, hj => simp at hj; subst hj; simp
        | 3, hj => simp at hj; subst hj; simp
        | 4, hj => simp at hj; subst hj; simp
        | 5, hj => simp at hj; subst hj; simp
        | n + 6, hj => simp at hj
      case c2 => intro u hu; simp at hu; rcases hu with rfl | rfl | rfl | rfl | rfl | rfl <;> rfl
      case c3 => omega
      case c4 => simp; omega
      intro v' w2 hown' hb2
      have HO2 := Lib.hid hown'
      have HB2 := Lib.hid (HB1.out.trans hb2)
      clear hown' hb2 HO1 HB1 q0 q1 q2 q3 q4 q5 q6
      go_wp2_with fail
      go_roundw
      case rel => exact ⟨k + 1, by omega, by go_num, by rw [HT.out]; exact HO2, HB2⟩
      case measure => simp [intOf]; omega
    · obtain rfl : k = n := by omega
      have HO2 := HO.out
      rw [List.take_of_length_le (by rw [HU.out]; exact Nat.le_refl _)] at HO2
      replace HO2 := Lib.hid HO2
      go_wp2_with fail
      go_ret
      exact ⟨_, rfl, HO2.out, HB.out⟩

end Go.Proofs.YtekajoifgdpmlaaGreatDoor

/-! C4 -/
namespace Go.Proofs.YtekajoifgdpmlaaGreatDoor
open Go.RowKit Pl Go.Shelf

theorem enters {f : FuncId} {fn : Func} {c : Code} (hf : Tryz.prog.funcs[f]? = some fn) (hname : (fn.name == "runtime.NumGoroutine") = false) (hb : fn.body = some c) : ∀ (args : Array Value) (w : World), (callFunc f args).run Tryz.prog w = .ok (.enter f args) w := enters_of hf hname hb

set_option maxRecDepth 100000 in
set_option maxHeartbeats 2000000 in
theorem ihas_any (vs us : List Value) (x : Iv) (d : Dy) (w : World) (h : RI w vs x) (h' : RD w us d) (hx : BdI x) (hd : Bd d) : Calls Tryz.prog 128 #[.agg vs.toArray, .agg us.toArray] w (Says (ivHas x d) w) := by
  obtain ⟨A, n, c, B, m, b, rfl, h1, h2⟩ := h
  obtain ⟨⟨ln, ll, le⟩, ⟨un, ul, ue⟩, al⟩ := x
  dsimp only at h1 h2 ⊢
  have rI : RI w [.bool ln, .slice A n c, .int .i64 le, .bool un, .slice B m b, .int .i64 ue, .bool al] ⟨⟨ln, ll, le⟩, ⟨un, ul, ue⟩, al⟩ := ⟨A, n, c, B, m, b, rfl, h1, h2⟩
  have r1 : RD w [.bool ln, .slice A n c, .int .i64 le] ⟨ln, ll, le⟩ := ⟨A, n, c, rfl, h1⟩
  have r2 : RD w [.bool un, .slice B m b, .int .i64 ue] ⟨un, ul, ue⟩ := ⟨B, m, b, rfl, h2⟩
  have HI := Lib.hid (fun W hb => lasts_RI w W _ _ rI hb)
  have H1 := Lib.hid (fun W hb => lasts_RD w W _ _ r1 hb)
  have H2 := Lib.hid (fun W hb => lasts_RD w W _ _ r2 hb)
  have HX := Lib.hid hx
  clear h1 h2 hx r1 r2 rI
  obtain ⟨C, p, q, rfl, h3⟩ := h'
  obtain ⟨dn, dl, de⟩ := d
  dsimp only at h3 ⊢
  have r3 : RD w [.bool dn, .slice C p q, .int .i64 de] ⟨dn, dl, de⟩ := ⟨C, p, q, rfl, h3⟩
  have H3 := Lib.hid (fun W hb => lasts_RD w W _ _ r3 hb)
  have HD := Lib.hid hd
  clear h3 r3 hd
  have HV : Hid (ivHas ⟨⟨ln, ll, le⟩, ⟨un, ul, ue⟩, al⟩ ⟨dn, dl, de⟩ = (ivV ⟨⟨ln, ll, le⟩, ⟨un, ul, ue⟩, al⟩ && vld ⟨dn, dl, de⟩ && (al || (decide (cmpD ⟨ln, ll, le⟩ ⟨dn, dl, de⟩ ≤ 0) && decide (cmpD ⟨dn, dl, de⟩ ⟨un, ul, ue⟩ ≤ 0))))) := rfl
  have hb0 := bnext (ballo w (.cells #[.bool ln, .slice A n c, .int .i64 le, .bool un, .slice B m b, .int .i64 ue, .bool al] 87)) (ballo (w.alloc (.cells #[.bool ln, .slice A n c, .int .i64 le, .bool un, .slice B m b, .int .i64 ue, .bool al] 87)) (.cells #[.bool dn, .slice C p q, .int .i64 de] 25))
  have k0 := (Blk.new w 87 #[.bool ln, .slice A n c, .int .i64 le, .bool un, .slice B m b, .int .i64 ue, .bool al]).next (ballo (w.alloc (.cells #[.bool ln, .slice A n c, .int .i64 le, .bool un, .slice B m b, .int .i64 ue, .bool al] 87)) (.cells #[.bool dn, .slice C p q, .int .i64 de] 25))
  have k1 : Blk ((w.alloc (.cells #[.bool ln, .slice A n c, .int .i64 le, .bool un, .slice B m b, .int .i64 ue, .bool al] 87)).alloc (.cells #[.bool dn, .slice C p q, .int .i64 de] 25)) (w.heap.size + 1) 25 #[.bool dn, .slice C p q, .int .i64 de] := Blk.newAt _ _ _ (by simp)
  go_enter Tryz.func128, Tryz.ntmps128
  go_wp2_with fail
  generalize (w.alloc (.cells #[.bool ln, .slice A n c, .int .i64 le, .bool un, .slice B m b, .int .i64 ue, .bool al] 87)).alloc (.cells #[.bool dn, .slice C p q, .int .i64 de] 25) = W0 at *
  refine (ivalid_any _ _ _ (HI.out _ hb0) HX.out).mono ?_
  rintro e w1 ⟨rfl, hb1x⟩
  replace hb0 := bnext hb0 hb1x
  replace k0 := k0.next hb1x
  replace k1 := k1.next hb1x
  clear hb1x
  cases hv1 : ivV ⟨⟨ln, ll, le⟩, ⟨un, ul, ue⟩, al⟩
  · rw [hv1] at HV
    clear hv1
    go_wp2_with fail
    go_ret
    exact ⟨by rw [HV.out]; rfl, hb0⟩
  rw [hv1] at HV
  clear hv1
  obtain ⟨k0q0, k0q1, k0q2, k0q3, k0q4, k0q5, k0q6⟩ := k0.cells7
  obtain ⟨k1q0, k1q1, k1q2⟩ := k1.cells3
  go_wp2_with fail
  refine (valid_R _ _ _ (H3.out _ hb0) HD.out).mono ?_
  rintro e w2 ⟨rfl, hb2x⟩
  clear k0q0 k0q1 k0q2 k0q3 k0q4 k0q5 k0q6 k1q0 k1q1 k1q2
  replace hb0 := bnext hb0 hb2x
  replace k0 := k0.next hb2x
  replace k1 := k1.next hb2x
  clear hb2x
  cases hv1 : vld ⟨dn, dl, de⟩
  · rw [hv1] at HV
    clear hv1
    go_wp2_with fail
    go_ret
    exact ⟨by rw [HV.out]; rfl, hb0⟩
  rw [hv1] at HV
  clear hv1
  cases al
  · obtain ⟨k0q0, k0q1, k0q2, k0q3, k0q4, k0q5, k0q6⟩ := k0.cells7
    obtain ⟨k1q0, k1q1, k1q2⟩ := k1.cells3
    go_wp2_with fail
    refine (cmp_R _ _ _ _ _ (H1.out _ hb0) (H3.out _ hb0) HX.out.1 HD.out).mono ?_
    rintro e w3 ⟨rfl, hb3x⟩
    clear k0q0 k0q1 k0q2 k0q3 k0q4 k0q5 k0q6 k1q0 k1q1 k1q2
    replace hb0 := bnext hb0 hb3x
    replace k0 := k0.next hb3x
    replace k1 := k1.next hb3x
    clear hb3x
    generalize cmpD ⟨ln, ll, le⟩ ⟨dn, dl, de⟩ = r1 at *
    cases hv1 : decide (r1 ≤ 0)
    · rw [hv1] at HV
      go_wp2_with fail
      go_ret
      exact ⟨by rw [HV.out]; rfl, hb0⟩
    rw [hv1] at HV
    obtain ⟨k0q0, k0q1, k0q2, k0q3, k0q4, k0q5, k0q6⟩ := k0.cells7
    obtain ⟨k1q0, k1q1, k1q2⟩ := k1.cells3
    go_wp2_with fail
    refine (cmp_R _ _ _ _ _ (H3.out _ hb0) (H2.out _ hb0) HD.out HX.out.2).mono ?_
    rintro e w4 ⟨rfl, hb4x⟩
    clear k0q0 k0q1 k0q2 k0q3 k0q4 k0q5 k0q6 k1q0 k1q1 k1q2
    replace hb0 := bnext hb0 hb4x
    replace k0 := k0.next hb4x
    replace k1 := k1.next hb4x
    clear hb4x
    generalize cmpD ⟨dn, dl, de⟩ ⟨un, ul, ue⟩ = r2 at *
    go_wp2_with fail
    go_ret
    exact ⟨by rw [HV.out]; rfl, hb0⟩
  · obtain ⟨k0q0, k0q1, k0q2, k0q3, k0q4, k0q5, k0q6⟩ := k0.cells7
    obtain ⟨k1q0, k1q1, k1q2⟩ := k1.cells3
    go_wp2_with fail
    go_ret
    exact ⟨by rw [HV.out]; rfl, hb0⟩

set_option maxHeartbeats 1000000 in
theorem boxValid1_any (vs : List Value) (x : Iv) (w : World) (h : RI w vs x) (hx : BdI x) : Calls Tryz.prog 129 (#[.agg vs.toArray] ++ #[]) w (Says (x.all || !ivV x) w) := by
  rw [Array.append_empty]
  obtain ⟨A, n, c, B, m, b, rfl, h1, h2⟩ := h
  obtain ⟨⟨ln, ll, le⟩, ⟨un, ul, ue⟩, al⟩ := x
  dsimp only at h1 h2 ⊢
  have rI : RI w [.bool ln, .slice A n c, .int .i64 le, .bool un, .slice B m b, .int .i64 ue, .bool al] ⟨⟨ln, ll, le⟩, ⟨un, ul, ue⟩, al⟩ := ⟨A, n, c, B, m, b, rfl, h1, h2⟩
  have r1 : RD w [.bool ln, .slice A n c, .int .i64 le] ⟨ln, ll, le⟩ := ⟨A, n, c, rfl, h1⟩
  have r2 : RD w [.bool un, .slice B m b, .int .i64 ue] ⟨un, ul, ue⟩ := ⟨B, m, b, rfl, h2⟩
  have HI := Lib.hid (fun W hb => lasts_RI w W _ _ rI hb)
  have H1 := Lib.hid (fun W hb => lasts_RD w W _ _ r1 hb)
  have H2 := Lib.hid (fun W hb => lasts_RD w W _ _ r2 hb)
  have HX := Lib.hid hx
  clear h1 h2 hx r1 r2 rI
  have hb0 := ballo w (.cells #[.bool ln, .slice A n c, .int .i64 le, .bool un, .slice B m b, .int .i64 ue, .bool al] 87)
  have k0 := Blk.new w 87 #[.bool ln, .slice A n c, .int .i64 le, .bool un, .slice B m b, .int .i64 ue, .bool al]
  cases al
  · have HV : Hid ((false || !ivV ⟨⟨ln, ll, le⟩, ⟨un, ul, ue⟩, false⟩) = !ivV ⟨⟨ln, ll, le⟩, ⟨un, ul, ue⟩, false⟩) := rfl
    go_enter Tryz.func129, Tryz.ntmps129
    go_wp2_with fail
    generalize w.alloc (.cells #[.bool ln, .slice A n c, .int .i64 le, .bool un, .slice B m b, .int .i64 ue, .bool false] 87) = W0 at *
    refine (ivalid_any _ _ _ (HI.out _ hb0) HX.out).mono ?_
    rintro e w1 ⟨rfl, hb1x⟩
    replace hb0 := bnext hb0 hb1x
    replace k0 := k0.next hb1x
    clear hb1x
    generalize ivV ⟨⟨ln, ll, le⟩, ⟨un, ul, ue⟩, false⟩ = r at *
    go_wp2_with fail
    go_ret
    exact ⟨by rw [HV.out]; rfl, hb0⟩
  · have HV : Hid ((true || !ivV ⟨⟨ln, ll, le⟩, ⟨un, ul, ue⟩, true⟩) = true) := rfl
    go_enter Tryz.func129, Tryz.ntmps129
    go_wp2_with fail
    go_ret
    exact ⟨by rfl, hb0⟩

set_option maxHeartbeats 1000000 in
theorem boxValid_any (A : Option Addr) (n c : Nat) (b : List Iv) (w : World) (h : Sl 7 RI w A n c b) (hx : ∀ x ∈ b, BdI x) : Calls Tryz.prog 64 #[.slice A n c] w (Says (boxV b) w) := by
  have HV : Hid (boxV b = (decide (1 ≤ n) && decide (n ≤ 8) && !b.any (fun x => x.all || !ivV x))) := by unfold Hid boxV; rw [h.len]
  have HC := Lib.hid (containsFunc_I (fun x => x.all || !ivV x) 129 #[] A n c b w h (enters Tryz.func129 (by kernel_rfl) rfl) (fun W vs x _ hm hr => boxValid1_any vs x W hr (hx x hm)))
  have hm := h.cap
  have hm2 := h.max
  clear h hx
  by_cases h1 : 1 ≤ n
  · by_cases h8 : n ≤ 8
    · go_enter Tryz.func64, Tryz.ntmps64
      go_wp2_with fail
      refine HC.out.mono ?_
      rintro e w1 ⟨rfl, hb0⟩
      generalize b.any (fun x => x.all || !ivV x) = r at *
      go_wp2_with fail
      go_ret
      exact ⟨by rw [HV.out, decide_eq_true h1, decide_eq_true h8]; rfl, hb0⟩
    · go_enter Tryz.func64, Tryz.ntmps64
      go_wp2_with fail
      go_ret
      exact ⟨by rw [HV.out, decide_eq_true h1, decide_eq_false (show ¬ n ≤ 8 by omega)]; rfl, Below.refl _ _⟩
  · go_enter Tryz.func64, Tryz.ntmps64
    go_wp2_with fail
    go_ret
    exact ⟨by rw [HV.out, decide_eq_false (show ¬ 1 ≤ n by omega)]; rfl, Below.refl _ _⟩

set_option maxHeartbeats 1000000 in
theorem frameValid1_any (vs : List Value) (d : Dy) (w : World) (h : RD w vs d) (hd : Bd d) : Calls Tryz.prog 125 (#[.agg vs.toArray] ++ #[]) w (Says (!vld d) w) := by
  rw [Array.append_empty]
  obtain ⟨A, n, c, rfl, hs⟩ := h
  obtain ⟨dn, dl, de⟩ := d
  dsimp only at hs ⊢
  have r1 : RD w [.bool dn, .slice A n c, .int .i64 de] ⟨dn, dl, de⟩ := ⟨A, n, c, rfl, hs⟩
  have hb0 := ballo w (.cells #[.bool dn, .slice A n c, .int .i64 de] 25)
  have H1 := Lib.hid (lasts_RD w _ _ _ r1 hb0)
  clear hs r1
  go_enter Tryz.func125, Tryz.ntmps125
  go_wp2_with fail
  refine (valid_R _ _ _ H1.out hd).mono ?_
  rintro e w1 ⟨rfl, hb1⟩
  generalize vld ⟨dn, dl, de⟩ = r at *
  go_wp2_with fail
  go_ret
  exact ⟨rfl, bnext hb0 hb1⟩

set_option maxHeartbeats 1000000 in
theorem square11_any (vs : List Value) (d : Dy) (w : World) (h : RD w vs d) (hd : Bd d) : Calls Tryz.prog 132 (#[.agg vs.toArray] ++ #[]) w (Says (!vld d) w) := by
  rw [Array.append_empty]
  obtain ⟨A, n, c, rfl, hs⟩ := h
  obtain ⟨dn, dl, de⟩ := d
  dsimp only at hs ⊢
  have r1 : RD w [.bool dn, .slice A n c, .int .i64 de] ⟨dn, dl, de⟩ := ⟨A, n, c, rfl, hs⟩
  have hb0 := ballo w (.cells #[.bool dn, .slice A n c, .int .i64 de] 25)
  have H1 := Lib.hid (lasts_RD w _ _ _ r1 hb0)
  clear hs r1
  go_enter Tryz.func132, Tryz.ntmps132
  go_wp2_with fail
  refine (valid_R _ _ _ H1.out hd).mono ?_
  rintro e w1 ⟨rfl, hb1⟩
  generalize vld ⟨dn, dl, de⟩ = r at *
  go_wp2_with fail
  go_ret
  exact ⟨rfl, bnext hb0 hb1⟩

theorem bd_zero : Bd zeroD := by unfold Bd; simp [zeroD]
set_option maxHeartbeats 1000000 in
theorem frameValid3_any (vs : List Value) (x : Iv) (w : World) (h : RI w vs x) (hx : BdI x) : Calls Tryz.prog 127 (#[.agg vs.toArray] ++ #[]) w (Says (x.all || !ivHas x zeroD) w) := by
  rw [Array.append_empty]
  obtain ⟨A, n, c, B, m, b, rfl, h1, h2⟩ := h
  obtain ⟨⟨ln, ll, le⟩, ⟨un, ul, ue⟩, al⟩ := x
  dsimp only at h1 h2 ⊢
  have rI : RI w [.bool ln, .slice A n c, .int .i64 le, .bool un, .slice B m b, .int .i64 ue, .bool al] ⟨⟨ln, ll, le⟩, ⟨un, ul, ue⟩, al⟩ := ⟨A, n, c, B, m, b, rfl, h1, h2⟩
  have r1 : RD w [.bool ln, .slice A n c, .int .i64 le] ⟨ln, ll, le⟩ := ⟨A, n, c, rfl, h1⟩
  have r2 : RD w [.bool un, .slice B m b, .int .i64 ue] ⟨un, ul, ue⟩ := ⟨B, m, b, rfl, h2⟩
  have HI := Lib.hid (fun W hb => lasts_RI w W _ _ rI hb)
  have H1 := Lib.hid (fun W hb => lasts_RD w W _ _ r1 hb)
  have H2 := Lib.hid (fun W hb => lasts_RD w W _ _ r2 hb)
  have HX := Lib.hid hx
  clear h1 h2 hx r1 r2 rI
  have hb0 := ballo w (.cells #[.bool ln, .slice A n c, .int .i64 le, .bool un, .slice B m b, .int .i64 ue, .bool al] 87)
  have k0 := Blk.new w 87 #[.bool ln, .slice A n c, .int .i64 le, .bool un, .slice B m b, .int .i64 ue, .bool al]
  cases al
  · have HV : Hid ((false || !ivHas ⟨⟨ln, ll, le⟩, ⟨un, ul, ue⟩, false⟩ zeroD) = !ivHas ⟨⟨ln, ll, le⟩, ⟨un, ul, ue⟩, false⟩ zeroD) := rfl
    go_enter Tryz.func127, Tryz.ntmps127
    go_wp2_with fail
    generalize w.alloc (.cells #[.bool ln, .slice A n c, .int .i64 le, .bool un, .slice B m b, .int .i64 ue, .bool false] 87) = W0 at *
    refine (ihas_any _ [.bool false, .slice none 0 0, .int .i64 0] _ zeroD _ (HI.out _ hb0) ⟨none, 0, 0, rfl, SL.nil _⟩ HX.out bd_zero).mono ?_
    rintro e w1 ⟨rfl, hb1x⟩
    replace hb0 := bnext hb0 hb1x
    replace k0 := k0.next hb1x
    clear hb1x
    generalize ivHas ⟨⟨ln, ll, le⟩, ⟨un, ul, ue⟩, false⟩ zeroD = r at *
    go_wp2_with fail
    go_ret
    exact ⟨by rw [HV.out]; rfl, hb0⟩
  · have HV : Hid ((true || !ivHas ⟨⟨ln, ll, le⟩, ⟨un, ul, ue⟩, true⟩ zeroD) = true) := rfl
    go_enter Tryz.func127, Tryz.ntmps127
    go_wp2_with fail
    go_ret
    exact ⟨by rfl, hb0⟩

set_option maxHeartbeats 1000000 in
theorem frameValid2_any (N : Nat) (gN gB : Nat) (vs : List Value) (l : List Dy) (w : World) (h : RM w vs l) (hd : ∀ d ∈ l, Bd d) (kN : w.cell? ⟨gN, 0, none⟩ = some (.int .i64 N)) (kB : w.cell? ⟨gB, 0, none⟩ = some (.func (.func 125) #[] #[])) : Calls Tryz.prog 126 (#[(vs[0]?).getD undef] ++ #[.pointer (some ⟨gN, 0, none⟩), .pointer (some ⟨gB, 0, none⟩)]) w (Says (decide (l.length ≠ N) || l.any (fun d => !vld d)) w) := by
  obtain ⟨A, n, c, rfl, hs⟩ := h
  have e : (#[(([.slice A n c] : List Value)[0]?).getD undef] ++ #[.pointer (some ⟨gN, 0, none⟩), .pointer (some ⟨gB, 0, none⟩)] : Array Value) = #[.slice A n c, .pointer (some ⟨gN, 0, none⟩), .pointer (some ⟨gB, 0, none⟩)] := by simp
  rw [e]
  obtain ⟨r, hr⟩ : ∃ r, l.any (fun d => !vld d) = r := ⟨_, rfl⟩
  have HV : Hid ((decide (l.length ≠ N) || l.any (fun d => !vld d)) = (decide (n ≠ N) || r)) := by unfold Hid; rw [hs.len, hr]
  have HC := Lib.hid (containsFunc_D (fun d => !vld d) 125 #[] A n c l w hs (enters Tryz.func125 (by kernel_rfl) rfl) (fun W us d _ hm hr => frameValid1_any us d W hr (hd d hm)))
  have hm := hs.cap
  have hm2 := hs.max
  rw [hr] at HC
  clear hs hd e hr
  by_cases hn : n = N
  · subst hn
    go_enter Tryz.func126, Tryz.ntmps126
    go_wp2_with fail
    refine HC.out.mono ?_
    rintro e w1 ⟨rfl, hb0⟩
    go_wp2_with fail
    go_ret
    exact ⟨by rw [HV.out, decide_eq_false (show ¬ n ≠ n by simp)]; rfl, hb0⟩
  · have hne : ((n : Int) != (N : Int)) = true := by rw [bne_iff_ne]; omega
    go_enter Tryz.func126, Tryz.ntmps126
    go_wp2_with fail
    go_ret
    exact ⟨by rw [HV.out, decide_eq_true (show n ≠ N from hn)]; rfl, Below.refl _ _⟩

set_option maxHeartbeats 1000000 in
theorem square1_any (N : Nat) (gN : Nat) (vs : List Value) (l : List Dy) (w : World) (h : RM w vs l) (hd : ∀ d ∈ l, Bd d) (kN : w.cell? ⟨gN, 0, none⟩ = some (.int .i64 N)) : Calls Tryz.prog 131 (#[(vs[0]?).getD undef] ++ #[.pointer (some ⟨gN, 0, none⟩)]) w (Says (decide (l.length ≠ N) || l.any (fun d => !vld d)) w) := by
  obtain ⟨A, n, c, rfl, hs⟩ := h
  have e : (#[(([.slice A n c] : List Value)[0]?).getD undef] ++ #[.pointer (some ⟨gN, 0, none⟩)] : Array Value) = #[.slice A n c, .pointer (some ⟨gN, 0, none⟩)] := by simp
  rw [e]
  obtain ⟨r, hr⟩ : ∃ r, l.any (fun d => !vld d) = r := ⟨_, rfl⟩
  have HV : Hid ((decide (l.length ≠ N) || l.any (fun d => !vld d)) = (decide (n ≠ N) || r)) := by unfold Hid; rw [hs.len, hr]
  have HC := Lib.hid (containsFunc_D (fun d => !vld d) 132 #[] A n c l w hs (enters Tryz.func132 (by kernel_rfl) rfl) (fun W us d _ hm hr => square11_any us d W hr (hd d hm)))
  have hm := hs.cap
  have hm2 := hs.max
  rw [hr] at HC
  clear hs hd e hr
  by_cases hn : n = N
  · subst hn
    go_enter Tryz.func131, Tryz.ntmps131
    go_wp2_with fail
    refine HC.out.mono ?_
    rintro e w1 ⟨rfl, hb0⟩
    go_wp2_with fail
    go_ret
    exact ⟨by rw [HV.out, decide_eq_false (show ¬ n ≠ n by simp)]; rfl, hb0⟩
  · have hne : ((n : Int) != (N : Int)) = true := by rw [bne_iff_ne]; omega
    go_enter Tryz.func131, Tryz.ntmps131
    go_wp2_with fail
    go_ret
    exact ⟨by rw [HV.out, decide_eq_true (show n ≠ N from hn)]; rfl, Below.refl _ _⟩

def sqV (v : List (List Dy)) (N : Nat) : Bool := decide (v.length = N) && !v.any (fun l => decide (l.length ≠ N) || l.any (fun d => !vld d))
set_option maxHeartbeats 1000000 in
theorem square_any (N : Nat) (A : Option Addr) (n c : Nat) (v : List (List Dy)) (w : World) (h : Sl 1 RM w A n c v) (hx : ∀ l ∈ v, ∀ d ∈ l, Bd d) : Calls Tryz.prog 65 #[.slice A n c, .int .i64 N] w (Says (sqV v N) w) := by
  have hmf : ∀ (fn : Fn) (first cap : Array Value) (w : World), (Instr.makeFunc fn first cap).run Tryz.prog w = .ok (.func fn first cap) w := fun _ _ _ _ => rfl
  have HV : Hid (sqV v N = (decide (n = N) && !v.any (fun l => decide (l.length ≠ N) || l.any (fun d => !vld d)))) := by unfold Hid sqV; rw [h.len]
  have hb0 := ballo w (.cells #[.int .i64 N] 3)
  have k0 := Blk.new w 3 #[.int .i64 N]
  have HC := Lib.hid (containsFunc_M (fun l => decide (l.length ≠ N) || l.any (fun d => !vld d)) 131 #[.pointer (some ⟨w.heap.size, 0, none⟩)] A n c v _ (h.next lasts_RM hb0) (enters Tryz.func131 (by kernel_rfl) rfl) (fun W vs l hb hm hr => square1_any N w.heap.size vs l W hr (hx l hm) (k0.next hb).cells1))
  have hm := h.cap
  have hm2 := h.max
  clear h hx
  by_cases hn : n = N
  · subst hn
    go_enter Tryz.func65, Tryz.ntmps65
    go_wp2_with fail
    refine HC.out.mono ?_
    rintro e w1 ⟨rfl, hb1⟩
    generalize v.any (fun l => decide (l.length ≠ n) || l.any (fun d => !vld d)) = r at *
    go_wp2_with fail
    go_ret
    exact ⟨by rw [HV.out]; first | rfl | simp, bnext hb0 hb1⟩
  · have hne : ((n : Int) == (N : Int)) = false := by rw [beq_eq_false_iff_ne]; omega
    go_enter Tryz.func65, Tryz.ntmps65
    go_wp2_with fail
    go_ret
    exact ⟨by rw [HV.out, decide_eq_false hn]; rfl, hb0⟩

set_option maxRecDepth 100000 in
set_option maxHeartbeats 4000000 in
theorem frameValid_any (vs : List Value) (f : Fr) (w : World) (h : RF w vs f) (hx : BdF f) : Calls Tryz.prog 60 #[.agg vs.toArray] w (Says (frV f) w) := by
  have hmf : ∀ (fn : Fn) (first cap : Array Value) (w : World), (Instr.makeFunc fn first cap).run Tryz.prog w = .ok (.func fn first cap) w := fun _ _ _ _ => rfl
  obtain ⟨A, n, c, B, m, d, C, p, q, rfl, h1, h2, h3⟩ := h
  have HV : Hid (frV f = (decide (1 ≤ n) && decide (n ≤ 8) && decide (m = n) && decide (p = n) && !f.c.any (fun d => !vld d) && !f.a.any (fun l => decide (l.length ≠ n) || l.any (fun d => !vld d)) && !f.r.any (fun x => x.all || !ivHas x zeroD))) := by unfold Hid frV; rw [h1.len, h2.len, h3.len]
  have m1 := h1.cap
  have m2 := h1.max
  have m3 := h2.cap
  have m4 := h2.max
  have m5 := h3.cap
  have m6 := h3.max
  have hbx := bnext (bnext (ballo w (.cells #[.slice A n c, .slice B m d, .slice C p q] 39)) (ballo (w.alloc (.cells #[.slice A n c, .slice B m d, .slice C p q] 39)) (.cells #[.int .i64 n] 3))) (ballo ((w.alloc (.cells #[.slice A n c, .slice B m d, .slice C p q] 39)).alloc (.cells #[.int .i64 n] 3)) (.cells #[.func (.func 125) #[] #[]] 78))
  have hbs := bnext (ballo w (.cells #[.slice A n c, .slice B m d, .slice C p q] 39)) (ballo (w.alloc (.cells #[.slice A n c, .slice B m d, .slice C p q] 39)) (.cells #[.int .i64 n] 3))
  have k0 := ((Blk.new w 39 #[.slice A n c, .slice B m d, .slice C p q]).next (ballo (w.alloc (.cells #[.slice A n c, .slice B m d, .slice C p q] 39)) (.cells #[.int .i64 n] 3))).next (ballo ((w.alloc (.cells #[.slice A n c, .slice B m d, .slice C p q] 39)).alloc (.cells #[.int .i64 n] 3)) (.cells #[.func (.func 125) #[] #[]] 78))
  have k1 := (Blk.newAt (w.alloc (.cells #[.slice A n c, .slice B m d, .slice C p q] 39)) 3 #[.int .i64 n] (g := w.heap.size + 1) (by simp)).next (ballo ((w.alloc (.cells #[.slice A n c, .slice B m d, .slice C p q] 39)).alloc (.cells #[.int .i64 n] 3)) (.cells #[.func (.func 125) #[] #[]] 78))
  have k2 : Blk (((w.alloc (.cells #[.slice A n c, .slice B m d, .slice C p q] 39)).alloc (.cells #[.int .i64 n] 3)).alloc (.cells #[.func (.func 125) #[] #[]] 78)) (w.heap.size + 1 + 1) 78 #[.func (.func 125) #[] #[]] := Blk.newAt _ _ _ (by simp)
  have HA := Lib.hid (fun W (hb : Below w.heap.size w W) => containsFunc_D (fun d => !vld d) 125 #[] A n c f.c W (h1.next lasts_RD hb) (enters Tryz.func125 (by kernel_rfl) rfl) (fun V us d _ hm hr => frameValid1_any us d V hr (hx.c d hm)))
  have HB := Lib.hid (fun W (hb : Below w.heap.size w W) (gN gB : Nat) (kN : Blk W gN 3 #[.int .i64 n]) (kB : Blk W gB 78 #[.func (.func 125) #[] #[]]) => containsFunc_M (fun l => decide (l.length ≠ n) || l.any (fun d => !vld d)) 126 #[.pointer (some ⟨gN, 0, none⟩), .pointer (some ⟨gB, 0, none⟩)] B m d f.a W (h2.next lasts_RM hb) (enters Tryz.func126 (by kernel_rfl) rfl) (fun V us l hb' hm hr => frameValid2_any n gN gB us l V hr (hx.a l hm) (kN.next hb').cells1 (kB.next hb').cells1))
  have HC := Lib.hid (fun W (hb : Below w.heap.size w W) => containsFunc_I (fun x => x.all || !ivHas x zeroD) 127 #[] C p q f.r W (h3.next lasts_RI hb) (enters Tryz.func127 (by kernel_rfl) rfl) (fun V us x _ hm hr => frameValid3_any us x V hr (hx.r x hm)))
  clear h1 h2 h3 hx
  generalize f.c.any (fun d => !vld d) = rc at *
  generalize f.a.any (fun l => decide (l.length ≠ n) || l.any (fun d => !vld d)) = ra at *
  generalize f.r.any (fun x => x.all || !ivHas x zeroD) = rr at *
  by_cases e1 : 1 ≤ n
  rotate_left
  · clear k0 k1 k2 hbx HA HB HC
    go_enter Tryz.func60, Tryz.ntmps60
    go_wp2_with fail
    go_ret
    exact ⟨by rw [HV.out, decide_eq_false (show ¬ 1 ≤ n by omega)]; rfl, hbs⟩
  by_cases e2 : n ≤ 8
  rotate_left
  · clear k0 k1 k2 hbx HA HB HC
    go_enter Tryz.func60, Tryz.ntmps60
    go_wp2_with fail
    go_ret
    exact ⟨by rw [HV.out, decide_eq_true e1, decide_eq_false (show ¬ n ≤ 8 by omega)]; rfl, hbs⟩
  by_cases e3 : m = n
  rotate_left
  · clear k0 k1 k2 hbx HA HB HC
    have hne : ((m : Int) != (n : Int)) = true := by rw [bne_iff_ne]; omega
    go_enter Tryz.func60, Tryz.ntmps60
    go_wp2_with fail
    go_ret
    exact ⟨by rw [HV.out, decide_eq_true e1, decide_eq_true e2, decide_eq_false e3]; rfl, hbs⟩
  have HE3 := Lib.hid e3
  have he3 : ((m : Int) != (n : Int)) = false := by rw [e3]; simp
  clear e3
  by_cases e4 : p = n
  rotate_left
  · clear k0 k1 k2 hbx HA HB HC
    have hne : ((p : Int) != (n : Int)) = true := by rw [bne_iff_ne]; omega
    go_enter Tryz.func60, Tryz.ntmps60
    go_wp2_with fail
    go_ret
    exact ⟨by rw [HV.out, decide_eq_true e1, decide_eq_true e2, decide_eq_true HE3.out, decide_eq_false e4]; rfl, hbs⟩
  have HE4 := Lib.hid e4
  have he4 : ((p : Int) != (n : Int)) = false := by rw [e4]; simp
  clear e4
  rw [decide_eq_true e1, decide_eq_true e2, decide_eq_true HE3.out, decide_eq_true HE4.out] at HV
  clear hbs
  go_enter Tryz.func60, Tryz.ntmps60
  go_wp2_with fail
  generalize (((w.alloc (.cells #[.slice A n c, .slice B m d, .slice C p q] 39)).alloc (.cells #[.int .i64 n] 3)).alloc (.cells #[.func (.func 125) #[] #[]] 78)) = W0 at *
  refine (HA.out _ hbx).mono ?_
  rintro e w1 ⟨rfl, hb1x⟩
  replace hbx := bnext hbx hb1x
  replace k0 := k0.next hb1x
  replace k1 := k1.next hb1x
  replace k2 := k2.next hb1x
  clear hb1x
  cases hv1 : rc
  rotate_left
  · rw [hv1] at HV
    clear hv1
    go_wp2_with fail
    go_ret
    exact ⟨by rw [HV.out]; rfl, hbx⟩
  rw [hv1] at HV
  clear hv1
  obtain ⟨k0q0, k0q1, k0q2⟩ := k0.cells3
  have k1q0 := k1.cells1
  have k2q0 := k2.cells1
  go_wp2_with fail
  refine (HB.out _ hbx _ _ k1 k2).mono ?_
  rintro e w2 ⟨rfl, hb2x⟩
  clear k0q0 k0q1 k0q2 k1q0 k2q0
  replace hbx := bnext hbx hb2x
  replace k0 := k0.next hb2x
  replace k1 := k1.next hb2x
  replace k2 := k2.next hb2x
  clear hb2x
  cases hv1 : ra
  rotate_left
  · rw [hv1] at HV
    clear hv1
    go_wp2_with fail
    go_ret
    exact ⟨by rw [HV.out]; rfl, hbx⟩
  rw [hv1] at HV
  clear hv1
  obtain ⟨k0q0, k0q1, k0q2⟩ := k0.cells3
  have k1q0 := k1.cells1
  have k2q0 := k2.cells1
  go_wp2_with fail
  refine (HC.out _ hbx).mono ?_
  rintro e w3 ⟨rfl, hb3x⟩
  clear k0q0 k0q1 k0q2 k1q0 k2q0
  replace hbx := bnext hbx hb3x
  replace k0 := k0.next hb3x
  replace k1 := k1.next hb3x
  replace k2 := k2.next hb3x
  clear hb3x
  go_wp2_with fail
  go_ret
  exact ⟨by rw [HV.out]; rfl, hbx⟩

end Go.Proofs.YtekajoifgdpmlaaGreatDoor

/-! C5 -/
namespace Go.Proofs.YtekajoifgdpmlaaGreatDoor
open Go.RowKit Pl Go.Shelf

def allI {α : Type} (p : Nat → α → Bool) (i : Nat) : List α → Bool
  | [] => true
  | x :: xs => p i x && allI p (i + 1) xs
theorem allI_yes {α : Type} (p : Nat → α → Bool) : ∀ (xs : List α) (i : Nat), (∀ (j : Nat) (x : α), xs[j]? = some x → p (i + j) x = true) → allI p i xs = true := by
  intro xs
  induction xs with
  | nil => intro i _; rfl
  | cons x xs ih =>
    intro i h
    simp only [allI, Bool.and_eq_true]
    exact ⟨h 0 x rfl, ih (i + 1) (fun j y hy => by have := h (j + 1) y (by simpa using hy); rwa [show i + (j + 1) = i + 1 + j by omega] at this)⟩
theorem allI_no {α : Type} (p : Nat → α → Bool) : ∀ (xs : List α) (i j : Nat) (x : α), xs[j]? = some x → p (i + j) x = false → allI p i xs = false := by
  intro xs
  induction xs with
  | nil => intro i j x h; simp at h
  | cons y xs ih =>
    intro i j x h hp
    cases j with
    | zero =>
      simp at h
      subst h
      simp only [allI]
      rw [show i + 0 = i from rfl] at hp
      rw [hp]; rfl
    | succ j =>
      simp only [allI]
      rw [ih (i + 1) j x (by simpa using h) (by rwa [show i + 1 + j = i + (j + 1) by omega]), Bool.and_false]
theorem allI_eq {α : Type} (p q : Nat → α → Bool) : ∀ (xs : List α) (i : Nat), (∀ (j : Nat) (x : α), xs[j]? = some x → p (i + j) x = q (i + j) x) → allI p i xs = allI q i xs := by
  intro xs
  induction xs with
  | nil => intro i _; rfl
  | cons x xs ih =>
    intro i h
    simp only [allI]
    rw [show p i x = q i x from h 0 x rfl, ih (i + 1) (fun j y hy => by have := h (j + 1) y (by simpa using hy); rwa [show i + (j + 1) = i + 1 + j by omega] at this)]
def oneD : Dy := ⟨false, [1], 0⟩
def idC (i k : Nat) (d : Dy) : Bool := decide (cmpD d (if i = k then oneD else zeroD) = 0)
def idRow (i : Nat) (l : List Dy) : Bool := allI (idC i) 0 l
def idM (m : List (List Dy)) : Bool := allI idRow 0 m

theorem ex_int0 : intD 0 = zeroD := by kernel_rfl
theorem int_zero (w : World) (ht : Tabs w) : Calls Tryz.prog 28 #[.int .i64 0] w (RetD ⟨false, [], 0⟩ w) := by
  have := intD_nonneg 0 w (by omega) ht
  rw [show intD ((0 : Nat) : Int) = ⟨false, [], 0⟩ from ex_int0] at this
  exact this

set_option maxRecDepth 100000 in
set_option maxHeartbeats 8000000 in
theorem identity_any (A : Option Addr) (n c : Nat) (m : List (List Dy)) (w : World) (h : Sl 1 RM w A n c m) (hx : ∀ l ∈ m, ∀ d ∈ l, Bd d) (ht : Tabs w) : Calls Tryz.prog 61 #[.slice A n c] w (Says (idM m) w) := by
  have m1 := h.cap
  have m2 := h.max
  have HL := Lib.hid h.len
  have HS := Lib.hid h
  have HX := Lib.hid hx
  have HT := Lib.hid ht
  clear h hx ht
  go_enter Tryz.func61, Tryz.ntmps61
  go_wp2_with fail
  go_loopw [10] (fun v wr => ∃ i : Nat, i ≤ n ∧ v = .int .i64 i ∧ Hid (∀ (j : Nat) (l : List Dy), j < i → m[j]? = some l → idRow j l = true) ∧ Below w.heap.size w wr) (fun v _ => n - (intOf v).toNat)
  case atStart => exact ⟨0, Nat.zero_le _, rfl, fun j l hj => absurd hj (by omega), Below.refl _ _⟩
  case round =>
    obtain ⟨i, hi, rfl, HZ, hb⟩ := hrel
    by_cases hlt : i < n
    · obtain ⟨b, off, l, vs, rfl, hbl, hml, hk, hR, hc⟩ := HS.out.get hlt
      obtain ⟨A1, n1, c1, rfl, hs⟩ := hR
      have qt := hc 0 _ rfl
      rw [Nat.mul_one, Nat.add_zero] at qt
      have q0 := (hb.cell (p := ⟨b, off + i, none⟩) hbl).trans qt
      have HM := Lib.hid hml
      have HS1 := Lib.hid hs
      have HXl := Lib.hid (HX.out l (List.mem_of_getElem? hml))
      have HL1 := Lib.hid hs.len
      have m3 := hs.cap
      have m4 := hs.max
      clear hc qt hk hml hs
      go_wp2_with fail
      clear q0
      go_loopw [17] (fun v wi => ∃ k : Nat, k ≤ n1 ∧ v = .int .i64 k ∧ Hid (∀ (j : Nat) (d : Dy), j < k → l[j]? = some d → idC i j d = true) ∧ Below w.heap.size w wi) (fun v _ => n1 - (intOf v).toNat)
      case atStart => exact ⟨0, Nat.zero_le _, rfl, fun j l hj => absurd hj (by omega), hb⟩
      case round =>
        clear hb
        obtain ⟨k, hk, rfl, HZ1, hb⟩ := hrel
        by_cases hlt1 : k < n1
        · obtain ⟨b1, off1, d, us, rfl, hbl1, hd, hk1, hR1, hc1⟩ := HS1.out.get hlt1
          have HBd := Lib.hid (HXl.out d (List.mem_of_getElem? hd))
          have HR1 := Lib.hid (fun W (hW : Below w.heap.size w W) => lasts_RD _ _ _ _ hR1 hW)
          obtain ⟨DA, dm, dc, rfl, hsd⟩ := hR1
          have p0 := (hb.cell (p := ⟨b1, off1 + k * 3, none⟩) hbl1).trans (hc1 0 _ rfl)
          have p1 := (hb.cell (p := ⟨b1, off1 + k * 3 + 1, none⟩) hbl1).trans (hc1 1 _ rfl)
          have p2 := (hb.cell (p := ⟨b1, off1 + k * 3 + 2, none⟩) hbl1).trans (hc1 2 _ rfl)
          obtain ⟨dn, dl, de⟩ := d
          have HD := Lib.hid hd
          clear hd hc1 hk1 hsd
          dsimp only at p0 p1 p2 HR1
          have kd := Blk.new wr 25 #[.bool dn, .slice DA dm dc, .int .i64 de]
          have hb1 := ballo wr (.cells #[.bool dn, .slice DA dm dc, .int .i64 de] 25)
          replace hb := bthen hb hb1 (Nat.le_refl _)
          clear hb1
          by_cases hik : i = k
          · have HE : Hid (idC i k ⟨dn, dl, de⟩ = decide (cmpD ⟨dn, dl, de⟩ oneD = 0)) := by unfold Hid idC; rw [if_pos hik]
            have hik2 : ((i : Int) == (k : Int)) = true := by rw [hik]; simp
            clear hik
            go_wp2_with fail
            generalize wr.alloc (.cells #[.bool dn, .slice DA dm dc, .int .i64 de] 25) = W1 at *
            generalize wr.heap.size = gd at *
            refine (int_zero _ (HT.out.next hb)).mono ?_
            rintro e w1 ⟨ZA, zn, zc, rfl, hs0, hf0, hb1⟩
            clear p0 p1 p2
            replace hb := bthen hb hb1 (Nat.le_refl _)
            replace kd := kd.next hb1
            clear hb1 hs0 hf0
            have hgz := hb.size
            have hgd := Nat.ne_of_lt kd.lt
            have kz := Blk.new w1 25 #[.bool false, .slice ZA zn zc, .int .i64 0]
            have hb1 := ballo w1 (.cells #[.bool false, .slice ZA zn zc, .int .i64 0] 25)
            replace hb := bthen hb hb1 (Nat.le_refl _)
            replace kd := kd.next hb1
            clear hb1
            go_wp2_with fail
            generalize w1.alloc (.cells #[.bool false, .slice ZA zn zc, .int .i64 0] 25) = W2 at *
            generalize w1.heap.size = gz at *
            refine (int_one _ (HT.out.next hb)).mono ?_
            rintro e w2 ⟨OA, on, oc, rfl, hs1, hf1, hb1⟩
            replace hb := bthen hb hb1 (Nat.le_refl _)
            replace kd := kd.next hb1
            have hoff := Off.fresh hf1 kz.lt
            replace kz := kz.next hb1
            clear hb1 hf1
            dsimp only at hs1
            obtain ⟨z0, z1, z2⟩ := kz.cells3
            have f0 := kz.frozen 0
            have f1 := kz.frozen 1
            have f2 := kz.frozen 2
            have kz2 := kz.set3 (.bool false) (.slice OA on oc) (.int .i64 0)
            have kd2 := kd.off3 (g := gz) hgd (.bool false) (.slice OA on oc) (.int .i64 0)
            have hs2 := hs1.off3 hoff (.bool false) (.slice OA on oc) (.int .i64 0)
            have hb2 := below_set3 hb hgz (.bool false) (.slice OA on oc) (.int .i64 0)
            obtain ⟨t0, t1, t2⟩ := kz2.cells3
            obtain ⟨s0, s1, s2⟩ := kd2.cells3
            go_wp2_with fail
            generalize ((w2.setCell ⟨gz, 0, none⟩ (.bool false)).setCell ⟨gz, 1, none⟩ (.slice OA on oc)).setCell ⟨gz, 2, none⟩ (.int .i64 0) = W3 at *
            clear z0 z1 z2 f0 f1 f2 kz kd hs1 hb t0 t1 t2 s0 s1 s2
            refine (cmp_R _ [.bool false, .slice OA on oc, .int .i64 0] _ oneD _ (HR1.out _ hb2) ⟨OA, on, oc, rfl, hs2⟩ HBd.out (by unfold Bd oneD; simp)).mono ?_
            rintro e w4 ⟨rfl, hb4⟩
            replace hb := bthen hb2 hb4 (Nat.le_refl _)
            clear hb2 hb4
            generalize cmpD ⟨dn, dl, de⟩ oneD = r at *
            by_cases hr : r = 0
            · subst hr
              have HC : Hid (idC i k ⟨dn, dl, de⟩ = true) := by unfold Hid; rw [HE.out]; rfl
              clear HE
              go_wp2_with fail
              go_roundw
              case rel => exact ⟨k + 1, by omega, by go_num, fun j d' hj hd' => by
                by_cases hjk : j < k
                · exact HZ1.out j d' hjk hd'
                · obtain rfl : j = k := by omega
                  rw [HD.out] at hd'
                  injection hd' with hd'
                  rw [← hd']; exact HC.out, hb⟩
              case measure => simp [intOf]; omega
            · have hr2 : (r != 0) = true := by simpa using hr
              have HC : Hid (idC i k ⟨dn, dl, de⟩ = false) := by unfold Hid; rw [HE.out]; simpa using hr
              clear HE
              go_wp2_with fail
              go_ret
              refine ⟨?_, hb⟩
              have hrow : idRow i l = false := by
                unfold idRow
                exact allI_no _ l 0 k _ HD.out (by rw [Nat.zero_add]; exact HC.out)
              have : idM m = false := by
                unfold idM
                exact allI_no _ m 0 i _ HM.out (by rw [Nat.zero_add]; exact hrow)
              rw [this]
              rfl
          · have HE : Hid (idC i k ⟨dn, dl, de⟩ = decide (cmpD ⟨dn, dl, de⟩ zeroD = 0)) := by unfold Hid idC; rw [if_neg hik]
            have hik2 : ((i : Int) == (k : Int)) = false := by rw [beq_eq_false_iff_ne]; omega
            clear hik
            go_wp2_with fail
            generalize wr.alloc (.cells #[.bool dn, .slice DA dm dc, .int .i64 de] 25) = W1 at *
            generalize wr.heap.size = gd at *
            refine (int_zero _ (HT.out.next hb)).mono ?_
            rintro e w1 ⟨ZA, zn, zc, rfl, hs0, hf0, hb1⟩
            clear p0 p1 p2
            replace hb := bthen hb hb1 (Nat.le_refl _)
            replace kd := kd.next hb1
            clear hb1 hf0
            dsimp only at hs0
            have kz := Blk.new w1 25 #[.bool false, .slice ZA zn zc, .int .i64 0]
            have hb1 := ballo w1 (.cells #[.bool false, .slice ZA zn zc, .int .i64 0] 25)
            replace hb := bthen hb hb1 (Nat.le_refl _)
            replace kd := kd.next hb1
            replace hs0 := hs0.below hb1
            clear hb1
            obtain ⟨s0, s1, s2⟩ := kd.cells3
            go_wp2_with fail
            generalize w1.alloc (.cells #[.bool false, .slice ZA zn zc, .int .i64 0] 25) = W2 at *
            refine (cmp_R _ [.bool false, .slice ZA zn zc, .int .i64 0] _ zeroD _ (HR1.out _ hb) ⟨ZA, zn, zc, rfl, hs0⟩ HBd.out bd_zero).mono ?_
            rintro e w4 ⟨rfl, hb4⟩
            replace hb := bthen hb hb4 (Nat.le_refl _)
            clear hb4 s0 s1 s2
            generalize cmpD ⟨dn, dl, de⟩ zeroD = r at *
            by_cases hr : r = 0
            · subst hr
              have HC : Hid (idC i k ⟨dn, dl, de⟩ = true) := by unfold Hid; rw [HE.out]; rfl
              clear HE
              go_wp2_with fail
              go_roundw
              case rel => exact ⟨k + 1, by omega, by go_num, fun j d' hj hd' => by
                by_cases hjk : j < k
                · exact HZ1.out j d' hjk hd'
                · obtain rfl : j = k := by omega
                  rw [HD.out] at hd'
                  injection hd' with hd'
                  rw [← hd']; exact HC.out, hb⟩
              case measure => simp [intOf]; omega
            · have hr2 : (r != 0) = true := by simpa using hr
              have HC : Hid (idC i k ⟨dn, dl, de⟩ = false) := by unfold Hid; rw [HE.out]; simpa using hr
              clear HE
              go_wp2_with fail
              go_ret
              refine ⟨?_, hb⟩
              have hrow : idRow i l = false := by
                unfold idRow
                exact allI_no _ l 0 k _ HD.out (by rw [Nat.zero_add]; exact HC.out)
              have : idM m = false := by
                unfold idM
                exact allI_no _ m 0 i _ HM.out (by rw [Nat.zero_add]; exact hrow)
              rw [this]
              rfl
        · have HRow : Hid (idRow i l = true) := by
            unfold Hid idRow
            refine allI_yes _ l 0 (fun j d hd => ?_)
            rw [Nat.zero_add]
            refine HZ1.out j d ?_ hd
            have := (List.getElem?_eq_some_iff.1 hd).1
            have := HL1.out
            omega
          go_wp2_with fail
          go_roundw
          case rel => exact ⟨i + 1, by omega, by go_num, fun j l' hj hl' => by
            by_cases hji : j < i
            · exact HZ.out j l' hji hl'
            · obtain rfl : j = i := by omega
              rw [HM.out] at hl'
              injection hl' with hl'
              rw [← hl']; exact HRow.out, hb⟩
          case measure => simp [intOf]; omega
    · go_wp2_with fail
      go_ret
      refine ⟨?_, hb⟩
      have : idM m = true := by
        unfold idM
        refine allI_yes _ m 0 (fun j l hl => ?_)
        rw [Nat.zero_add]
        refine HZ.out j l ?_ hl
        have := (List.getElem?_eq_some_iff.1 hl).1
        have := HL.out
        omega
      rw [this]
      rfl


end Go.Proofs.YtekajoifgdpmlaaGreatDoor
