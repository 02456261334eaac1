/- Bundle 22: what the laws' walks stand on: KitA, K1, K2. -/
import Derived.Test.YtekajoifgdpmlaaGreatDoorCards
import Derived.Test.YtekajoifgdpmlaaGreatDoorTie
import Derived.ProofKit
import Derived.OpenShut
import Derived.Deep.DeepHandedRow
import Derived.Lib.LaidTab
import Derived.Lib.SmallJoins
import Derived.Stop.LaidErr
import Derived.Deep.Slices
import Derived.Deep.Strs
import Derived.Shelf.Vars
import Derived.Test.YtekajoifgdpmlaaGreatDoorZ5
import Derived.Test.YtekajoifgdpmlaaGreatDoorZ6
import Derived.Test.YtekajoifgdpmlaaGreatDoorZ17
/-! KitA -/
/-! From the walks to the rows: what the laws of this seat have in common. -/
namespace Go.Proofs.YtekajoifgdpmlaaGreatDoor
open Go.ChangeShapes Go.WideShapes Go.ChangeAt Go.RowKit Go.Shelf Pl

theorem kown : ownKnob Tryz.prog.godebug = none := by kernel_rfl
theorem klaidOut : laidOutB Tryz.prog = true := by kernel_rfl
theorem gTab : Tryz.prog.globalNamed "math/bits.deBruijn32tab" = some 3 := by kernel_rfl
theorem gTabType : (Tryz.prog.globals[3]?).map (·.type) = some 202 := by kernel_rfl
theorem cellsTab : Tryz.prog.cellsOf 202 = 32 := by kernel_rfl
theorem cells8 : Tryz.prog.cellsOf 5 = 1 := by kernel_rfl
theorem cells32 : Tryz.prog.cellsOf 60 = 1 := by kernel_rfl
theorem cellsD : Tryz.prog.cellsOf 25 = 3 := by kernel_rfl

def tab32 : List Int := Lib.deBruijn32tab.map (fun n : Nat => (n : Int))
def tab64 : List Int := Lib.deBruijn64tab.map (fun n : Nat => (n : Int))
/-- What every row of this seat lists. -/
theorem tabs_of {W : World} {rest : List (String × DataW Unit)} (h : laidMet Tryz.prog (("math/bits.deBruijn32tab", Rows.laid_math_bits_deBruijn32tab) :: rest) W) : Tabs W := by
  have h' : laidMet Tryz.prog (("math/bits.deBruijn32tab", Lib.tabData .u8 tab32) :: rest) W := h
  have ht := Lib.tabIs_of_head (rest := rest) gTab gTabType Tryz.underlying202 Tryz.underlying5 cells8 cellsTab h'
  intro j hj
  have hj' : j < tab32.length := by simpa [tab32] using hj
  have := ht.cell gTab j hj'
  rw [this]
  congr 2
  simp [tab32, List.getD, hj]

/-- An argument that is a slice of uint32 reads as limbs. -/
theorem sl_of_trod {H : Type} {enc : TypeId × Value → H} {W : World} {base fuel : Nat} {v : Value} {x : DataW H × List MemPlace} (hf : DataW.trod enc Tryz.prog W base (fun _ => true) true fuel 23 [v] = some x) :
    ∃ A n c l, v = .slice A n c ∧ SL W A n c l := by
  rcases open_ints Tryz.underlying23 Tryz.underlying60 cells32 hf with ⟨hcs, _⟩ | ⟨a, len, cap, zs, hcs, _, hl, hm, hz, _, hcell, hwz⟩
  · injection hcs with e _
    exact ⟨none, 0, 0, [], e, SL.nil W⟩
  · injection hcs with e _
    rw [if_pos rfl] at hz
    refine ⟨some a, len, cap, (zs.take len).map Int.toNat, e, ⟨by simp [hz]; omega, hl, by simpa [maxLen] using hm, ?_, ?_⟩⟩
    · intro y hy
      obtain ⟨z, hz1, rfl⟩ := List.mem_map.1 hy
      have := bounds_u32 (hwz z (List.mem_of_mem_take hz1))
      omega
    · intro hn
      obtain ⟨b, off, rfl, hc⟩ := ints_at hcell (by omega)
      have hlt : b < W.heap.size := by
        have := hc 0 (by omega)
        rcases Nat.lt_or_ge b W.heap.size with hlt | hge
        · exact hlt
        · simp [World.cell?, Array.getElem?_eq_none hge] at this
      refine ⟨b, off, rfl, hlt, fun j y hy => ?_⟩
      have hj : j < len := by
        rcases Nat.lt_or_ge j len with h' | h'
        · exact h'
        · rw [List.getElem?_eq_none (by simp; omega)] at hy; cases hy
      have hzj : zs[j]? = some zs[j] := List.getElem?_eq_getElem (by omega)
      have hw := bounds_u32 (hwz zs[j] (List.getElem_mem (by omega)))
      have hy2 : y = (zs[j]).toNat := by
        rw [List.getElem?_map, List.getElem?_take_of_lt hj, hzj] at hy
        simpa using hy.symm
      rw [hc j (by omega)]
      simp only [List.getD, hzj, Option.getD_some, hy2]
      congr 2
      omega

/-- An argument reads behind the call as it read before it. -/
theorem stays {H : Type} {enc : TypeId × Value → H} {t : TypeId} {W W' : World} {sp : Nat → Bool} {v : Value} {d : DataW H} {ps : List MemPlace} (hr : Tryz.prog.readableRec t = true) (hrow : decide (t < Tryz.prog.types.size) = true)
    (h : DataW.Trod enc Tryz.prog W 0 (fun _ => true) true t v d ps) (hb : Below W.heap.size W W') (hlt : ∀ x ∈ ps, x.block < W.heap.size) (hsp : ∀ x ∈ ps, sp x.block = true) : DataW.Trod enc Tryz.prog W' 0 sp true t v d ps :=
  WideElems.Trod_stays klaidOut hr (of_decide_eq_true hrow) h (fun x hx => hb.same (hlt x hx)) hsp

section
variable {H : Type} {enc : TypeId × Value → H} {P : Program}
/-- The row's last step out of 'Below'. -/
theorem post_of_below {f : Func} {s : ChangeSpec} {apart fresh handsOn again : Bool} {W W' : World} {args : Array Value} {v : Value} {ds gs : List (DataW H)} {before pa pv : List MemPlace}
    (hW : DataW.Whole enc P f.params.toList s.vars apart W args.toList ds gs before)
    (hres : ∀ (b : Nat) (sp : Nat → Bool) (hd : Bool), DataW.TrodAll enc P W' b sp hd f.resultTypes.toList (v.resultList f.resultTypes.size) (s.fn H (ds ++ gs)).results [])
    (hargs : ∀ sp : Nat → Bool, (∀ p ∈ before, sp p.block = true) → DataW.TrodAll enc P W' 0 sp true f.params.toList args.toList (s.fn H (ds ++ gs)).args pa)
    (hvars : ∀ sp : Nat → Bool, (∀ p ∈ before, sp p.block = true) → DataW.TrodVars enc P W' sp s.vars (s.fn H (ds ++ gs)).vars pv)
    (hps : before = pa ++ pv) (hb : Below W.heap.size W W')
    (hok : ∀ (j : Nat) (t : TypeId) (r : Value), f.resultTypes[j]? = some t → (v.resultList f.resultTypes.size)[j]? = some r → Value.okWide P W' .any 0 t r) :
    s.post enc P f apart fresh handsOn again W args v W' := by
  have hlt : ∀ p ∈ before, p.block < W.heap.size := fun p hp => hW.lt p hp
  have hold : ∀ p ∈ before, (fun b => decide (b < W.heap.size)) p.block = true := fun p hp => by simpa using hlt p hp
  refine ⟨ds, gs, before, [], pa, pv, hW, hres _ _ _, hargs _ hold, hvars _ hold, World.keptBut_mono (fun p hp => ⟨hp, ?_⟩) (hb.frame (· ∈ before)), fun _ => ?_⟩
  · rw [hps, List.mem_append] at hp
    exact Or.inr hp
  · obtain ⟨_, _, _, _, _, hz, hn⟩ := hW
    refine ⟨hok, _, _, ([] ++ pa) ++ pv, ⟨[] ++ pa, pv, trodAll_append (hargs _ (fun _ _ => rfl)) (hres _ _ _), hvars _ (fun _ _ => rfl), rfl, ?_, ?_⟩, ?_⟩
    · intro b off hp
      have hin : MemPlace.cell b off ∈ before := by rw [hps]; simpa using hp
      rw [hb.frozen (hlt _ hin)]
      exact hz b off hin
    · intro ha
      have := hn ha
      rw [hps] at this
      simpa using this
    · intro p hp _
      rw [hps]
      simpa using hp
end

/-- A block with other cells. -/
def putCells (cs : Array Value) : Obj → Obj
  | .cells _ t frozen => .cells cs t frozen
  | o => o
/-- A WORLD FOR THE WITNESSES: the settled one, the tables holding what their initialisers lay. -/
noncomputable def laidWorld (os : Os) : World :=
  { World.holding Tryz.prog os ⟨#[], #[], []⟩ with heap := (((World.holding Tryz.prog os ⟨#[], #[], []⟩).heap.modify 3 (putCells (tab32.map fun z => Value.int .u8 z).toArray)).modify 8 (putCells (tab64.map fun z => Value.int .u8 z).toArray)).modify 5 (putCells (Lib.pow10Tab.map fun z => Value.int .u64 z).toArray) }

end Go.Proofs.YtekajoifgdpmlaaGreatDoor

/-! Arguments that are dyadic numbers: what they read as. -/
namespace Go.Proofs.YtekajoifgdpmlaaGreatDoor
open Go.ChangeShapes Go.WideShapes Go.ChangeAt Go.RowKit Go.Shelf Pl

theorem dy_bool {H : Type} {enc : TypeId × Value → H} {W : World} {base fuel : Nat} {v : Value} {x : DataW H × List MemPlace} (hf : DataW.trod enc Tryz.prog W base (fun _ => true) true fuel 4 [v] = some x) : ∃ b : Bool, v = .bool b := by
  obtain ⟨b, h, _⟩ := DataW.trod_bool Tryz.underlying4 hf
  injection h with e _
  exact ⟨b, e⟩
theorem dy_int {H : Type} {enc : TypeId × Value → H} {W : World} {base fuel : Nat} {v : Value} {x : DataW H × List MemPlace} (hf : DataW.trod enc Tryz.prog W base (fun _ => true) true fuel 3 [v] = some x) : ∃ n : Int, v = .int .i64 n := by
  obtain ⟨n, h, _⟩ := DataW.trod_int Tryz.underlying3 hf
  injection h with e _
  exact ⟨n, e⟩
end Go.Proofs.YtekajoifgdpmlaaGreatDoor

/-! The table of powers of ten, out of what every row of this seat lists. -/
namespace Go.Proofs.YtekajoifgdpmlaaGreatDoor
open Go.RowKit Pl Go.Shelf

theorem gTen : Tryz.prog.globalNamed "internal/strconv.uint64pow10" = some 5 := by kernel_rfl
theorem gTenType : (Tryz.prog.globals[5]?).map (·.type) = some 221 := by kernel_rfl
theorem cellsTen : Tryz.prog.cellsOf 221 = 20 := by kernel_rfl
theorem cells64 : Tryz.prog.cellsOf 129 = 1 := by kernel_rfl
theorem tens_of {W : World} {x y : String × DataW Unit} {rest : List (String × DataW Unit)} (h : laidMet Tryz.prog (x :: y :: ("internal/strconv.uint64pow10", Rows.laid_internal_strconv_uint64pow10) :: rest) W) : Tens W := by
  have h2 := (laidMet.tail (laidMet.tail h))
  have h' : laidMet Tryz.prog (("internal/strconv.uint64pow10", Lib.tabData .u64 Lib.pow10Tab) :: rest) W := h2
  exact Lib.tabIs_of_head (rest := rest) gTen gTenType Tryz.underlying221 Tryz.underlying129 cells64 cellsTen h'

/-- THE SAME WORLD, the two errors of strconv laid besides. -/
noncomputable def laidWorld2 (os : Os) : World :=
  { laidWorld os with heap := (((((laidWorld os).heap.modify 2 (putCells #[.iface 217 (.pointer (some ⟨(laidWorld os).heap.size, 0, none⟩))])).modify 1 (putCells #[.iface 217 (.pointer (some ⟨(laidWorld os).heap.size + 1, 0, none⟩))])).push (.cells #[.string ⟨#[118, 97, 108, 117, 101, 32, 111, 117, 116, 32, 111, 102, 32, 114, 97, 110, 103, 101]⟩] 219)).push (.cells #[.string ⟨#[105, 110, 118, 97, 108, 105, 100, 32, 115, 121, 110, 116, 97, 120]⟩] 219)) }

end Go.Proofs.YtekajoifgdpmlaaGreatDoor

/-! K1 -/
namespace Go.Proofs.YtekajoifgdpmlaaGreatDoor
open Go.ChangeShapes Go.WideShapes Go.ChangeAt Go.RowKit Go.Shelf Pl

theorem list3 {α : Type} {cs : List α} (h : cs.length = 3) : ∃ c0 c1 c2, cs = [c0, c1, c2] := by
  match cs, h with
  | [c0, c1, c2], _ => exact ⟨c0, c1, c2, rfl⟩
theorem list6 {α : Type} {cs : List α} (h : cs.length = 6) : ∃ c0 c1 c2 c3 c4 c5, cs = [c0, c1, c2, c3, c4, c5] := by
  match cs, h with
  | [c0, c1, c2, c3, c4, c5], _ => exact ⟨c0, c1, c2, c3, c4, c5, rfl⟩
theorem list7 {α : Type} {cs : List α} (h : cs.length = 7) : ∃ c0 c1 c2 c3 c4 c5 c6, cs = [c0, c1, c2, c3, c4, c5, c6] := by
  match cs, h with
  | [c0, c1, c2, c3, c4, c5, c6], _ => exact ⟨c0, c1, c2, c3, c4, c5, c6, rfl⟩
theorem list8 {α : Type} {cs : List α} (h : cs.length = 8) : ∃ c0 c1 c2 c3 c4 c5 c6 c7, cs = [c0, c1, c2, c3, c4, c5, c6, c7] := by
  match cs, h with
  | [c0, c1, c2, c3, c4, c5, c6, c7], _ => exact ⟨c0, c1, c2, c3, c4, c5, c6, c7, rfl⟩
theorem list_choose {α : Type} {p : Nat → α → Prop} : ∀ n, (∀ i, i < n → ∃ d, p i d) → ∃ xs : List α, xs.length = n ∧ ∀ (j : Nat) (x : α), xs[j]? = some x → p j x := by
  intro n
  induction n with
  | zero => intro _; exact ⟨[], rfl, fun j x h => by simp at h⟩
  | succ n ih =>
    intro h
    obtain ⟨xs, h1, h2⟩ := ih (fun i hi => h i (by omega))
    obtain ⟨d, hd⟩ := h n (by omega)
    refine ⟨xs ++ [d], by simp [h1], fun j x hx => ?_⟩
    by_cases hj : j < xs.length
    · rw [List.getElem?_append_left hj] at hx; exact h2 j x hx
    · have hlt := (List.getElem?_eq_some_iff.1 hx).1
      simp at hlt
      obtain rfl : j = n := by omega
      rw [List.getElem?_append_right (by omega), h1, Nat.sub_self] at hx
      simp at hx
      subst hx
      exact hd

section
variable {H : Type} {enc : TypeId × Value → H} {W : World}
/-- A slice whose elements read. -/
theorem sl_open {α : Type} {k : Nat} {R : World → List Value → α → Prop} {t e : TypeId} (ht : Tryz.prog.underlying t = some (.slice e)) (hk : Tryz.prog.cellsOf e = k) (hk0 : 0 < k)
    (hR : ∀ (fuel : Nat) (cs : List Value) (x : DataW H × List MemPlace), DataW.trod enc Tryz.prog W 0 (fun _ => true) true fuel e cs = some x → ∃ d, R W cs d)
    {fuel : Nat} {cs : List Value} {x : DataW H × List MemPlace} (h : DataW.trod enc Tryz.prog W 0 (fun _ => true) true fuel t cs = some x) : ∃ A n c xs, cs = [.slice A n c] ∧ Sl k R W A n c xs := by
  rcases Deep.open_slice ht h with ⟨rfl, _⟩ | ⟨a, len, cap, m, n, D, Pl, rfl, _, hl, hm, hmm, _, hx⟩
  · exact ⟨_, _, _, [], rfl, Sl.nil W⟩
  · rw [hk] at hx
    rw [if_pos rfl] at hmm
    obtain ⟨xs, h1, h2⟩ := list_choose (α := α) (p := fun i d => ∃ cs', W.cells? 0 (a.add (i * k)) k = some cs' ∧ R W cs' d) len (fun i hi => by
      obtain ⟨cs', h1, h2⟩ := hx i (by omega)
      obtain ⟨d, hd⟩ := hR _ _ _ h2
      exact ⟨d, cs', h1, hd⟩)
    refine ⟨some a, len, cap, xs, rfl, ⟨h1, hl, by simpa [maxLen] using hm, fun hn => ?_⟩⟩
    obtain ⟨cs0, g1, _⟩ := hx 0 (by omega)
    have hblk := World.cells?_block g1 hk0
    obtain ⟨_, gl, gc⟩ := World.cells?_some g1
    obtain ⟨b, off, spot⟩ := a
    have hspot : spot = none := by
      have h0 := gc 0 hk0
      rw [List.getElem?_eq_getElem (by omega)] at h0
      simpa [Addr.add] using World.cell?_spot h0
    subst hspot
    refine ⟨b, off, rfl, by simpa [Addr.add] using hblk, fun j d hj => ?_⟩
    obtain ⟨cs', e1, e2⟩ := h2 j d hj
    obtain ⟨_, el, ec⟩ := World.cells?_some e1
    refine ⟨cs', el, e2, fun i v hi => ?_⟩
    have hik : i < k := by have := (List.getElem?_eq_some_iff.1 hi).1; omega
    have := ec i hik
    rw [hi, add_of_add, Go.WideShapes.add_plain, ← Nat.add_assoc] at this
    exact this

theorem cBool : Tryz.prog.cellsOf 4 = 1 := by kernel_rfl
theorem cInt : Tryz.prog.cellsOf 3 = 1 := by kernel_rfl
theorem cLimbs : Tryz.prog.cellsOf 23 = 1 := by kernel_rfl
theorem cDys : Tryz.prog.cellsOf 35 = 1 := by kernel_rfl
theorem cMat : Tryz.prog.cellsOf 36 = 1 := by kernel_rfl
theorem cIvs : Tryz.prog.cellsOf 37 = 1 := by kernel_rfl
theorem cLks : Tryz.prog.cellsOf 40 = 1 := by kernel_rfl
theorem cIv : Tryz.prog.cellsOf 87 = 7 := by kernel_rfl
theorem cFr : Tryz.prog.cellsOf 39 = 3 := by kernel_rfl
theorem cLk : Tryz.prog.cellsOf 98 = 8 := by kernel_rfl
theorem cCt : Tryz.prog.cellsOf 42 = 6 := by kernel_rfl

set_option maxRecDepth 100000 in
theorem rd_open {fuel : Nat} {cs : List Value} {x : DataW H × List MemPlace} (h : DataW.trod enc Tryz.prog W 0 (fun _ => true) true fuel 25 cs = some x) : ∃ d, RD W cs d := by
  obtain ⟨y0, y1, y2, n, _, hl, h0, h1, h2⟩ := Deep.trod_struct3 Tryz.underlying25 h
  rw [cellsD] at hl
  obtain ⟨c0, c1, c2, rfl⟩ := list3 hl
  simp only [cBool, cInt, cLimbs, List.drop, List.take] at h0 h1 h2
  obtain ⟨ng, rfl⟩ := dy_bool h0
  obtain ⟨A, n, c, l, rfl, hS⟩ := sl_of_trod h1
  obtain ⟨ex, rfl⟩ := dy_int h2
  exact ⟨⟨ng, l, ex⟩, A, n, c, rfl, hS⟩
set_option maxRecDepth 100000 in
theorem ri_open {fuel : Nat} {cs : List Value} {x : DataW H × List MemPlace} (h : DataW.trod enc Tryz.prog W 0 (fun _ => true) true fuel 87 cs = some x) : ∃ d, RI W cs d := by
  obtain ⟨y0, y1, y2, n, _, hl, h0, h1, h2⟩ := Deep.trod_struct3 Tryz.underlying87 h
  rw [cIv] at hl
  obtain ⟨c0, c1, c2, c3, c4, c5, c6, rfl⟩ := list7 hl
  simp only [cBool, cellsD, List.drop, List.take] at h0 h1 h2
  obtain ⟨d, A, n, c, e, hS⟩ := rd_open h0
  obtain ⟨d', A', n', c', e', hS'⟩ := rd_open h1
  obtain ⟨al, rfl⟩ := dy_bool h2
  simp only [List.cons.injEq, and_true] at e e'
  obtain ⟨rfl, rfl, rfl⟩ := e
  obtain ⟨rfl, rfl, rfl⟩ := e'
  exact ⟨⟨d, d', al⟩, A, n, c, A', n', c', rfl, hS, hS'⟩
theorem sld_open {fuel : Nat} {cs : List Value} {x : DataW H × List MemPlace} (h : DataW.trod enc Tryz.prog W 0 (fun _ => true) true fuel 35 cs = some x) : ∃ A n c xs, cs = [.slice A n c] ∧ Sl 3 RD W A n c xs :=
  sl_open Tryz.underlying35 cellsD (by omega) (fun _ _ _ h => rd_open h) h
theorem rm_open {fuel : Nat} {cs : List Value} {x : DataW H × List MemPlace} (h : DataW.trod enc Tryz.prog W 0 (fun _ => true) true fuel 35 cs = some x) : ∃ d, RM W cs d := by
  obtain ⟨A, n, c, xs, rfl, hS⟩ := sld_open h
  exact ⟨xs, A, n, c, rfl, hS⟩
theorem slm_open {fuel : Nat} {cs : List Value} {x : DataW H × List MemPlace} (h : DataW.trod enc Tryz.prog W 0 (fun _ => true) true fuel 36 cs = some x) : ∃ A n c xs, cs = [.slice A n c] ∧ Sl 1 RM W A n c xs :=
  sl_open Tryz.underlying36 cDys (by omega) (fun _ _ _ h => rm_open h) h
theorem sli_open {fuel : Nat} {cs : List Value} {x : DataW H × List MemPlace} (h : DataW.trod enc Tryz.prog W 0 (fun _ => true) true fuel 37 cs = some x) : ∃ A n c xs, cs = [.slice A n c] ∧ Sl 7 RI W A n c xs :=
  sl_open Tryz.underlying37 cIv (by omega) (fun _ _ _ h => ri_open h) h
set_option maxRecDepth 100000 in
theorem rf_open {fuel : Nat} {cs : List Value} {x : DataW H × List MemPlace} (h : DataW.trod enc Tryz.prog W 0 (fun _ => true) true fuel 39 cs = some x) : ∃ d, RF W cs d := by
  obtain ⟨y0, y1, y2, n, _, hl, h0, h1, h2⟩ := Deep.trod_struct3 Tryz.underlying39 h
  rw [cFr] at hl
  obtain ⟨c0, c1, c2, rfl⟩ := list3 hl
  simp only [cDys, cMat, cIvs, List.drop, List.take] at h0 h1 h2
  obtain ⟨A, n, c, xs, e, h1'⟩ := sld_open h0
  obtain ⟨B, m, d, ys, e', h2'⟩ := slm_open h1
  obtain ⟨C, p, q, zs, e'', h3'⟩ := sli_open h2
  simp only [List.cons.injEq, and_true] at e e' e''
  subst e e' e''
  exact ⟨⟨xs, ys, zs⟩, A, n, c, B, m, d, C, p, q, rfl, h1', h2', h3'⟩
set_option maxRecDepth 100000 in
theorem rl_open {fuel : Nat} {cs : List Value} {x : DataW H × List MemPlace} (h : DataW.trod enc Tryz.prog W 0 (fun _ => true) true fuel 98 cs = some x) : ∃ d, RL W cs d := by
  obtain ⟨y0, y1, y2, y3, n, _, hl, h0, h1, h2, h3⟩ := Joins.trod_struct4 Tryz.underlying98 h
  rw [cLk] at hl
  obtain ⟨c0, c1, c2, c3, c4, c5, c6, c7, rfl⟩ := list8 hl
  simp only [cellsD, cFr, cMat, cIvs, List.drop, List.take] at h0 h1 h2 h3
  obtain ⟨d, Hh, hn, hc, e0, hS⟩ := rd_open h0
  obtain ⟨T, tn, tc, ts, e1, hT⟩ := sli_open h1
  obtain ⟨f, A, n, c, B, m, d', C, p, q, e2, f1, f2, f3⟩ := rf_open h2
  obtain ⟨V, vn, vc, vs, e3, hV⟩ := slm_open h3
  simp only [List.cons.injEq, and_true] at e0 e1 e2 e3
  obtain ⟨rfl, rfl, rfl⟩ := e0
  subst e1 e3
  obtain ⟨rfl, rfl, rfl⟩ := e2
  exact ⟨⟨d, ts, f, vs⟩, Hh, hn, hc, T, tn, tc, A, n, c, B, m, d', C, p, q, V, vn, vc, rfl, hS, hT, f1, f2, f3, hV⟩
theorem sll_open {fuel : Nat} {cs : List Value} {x : DataW H × List MemPlace} (h : DataW.trod enc Tryz.prog W 0 (fun _ => true) true fuel 40 cs = some x) : ∃ A n c xs, cs = [.slice A n c] ∧ Sl 8 RL W A n c xs :=
  sl_open Tryz.underlying40 cLk (by omega) (fun _ _ _ h => rl_open h) h
set_option maxRecDepth 100000 in
theorem rc_open {fuel : Nat} {cs : List Value} {x : DataW H × List MemPlace} (h : DataW.trod enc Tryz.prog W 0 (fun _ => true) true fuel 42 cs = some x) : ∃ d, RC W cs d := by
  obtain ⟨y0, y1, y2, y3, n, _, hl, h0, h1, h2, h3⟩ := Joins.trod_struct4 Tryz.underlying42 h
  rw [cCt] at hl
  obtain ⟨c0, c1, c2, c3, c4, c5, rfl⟩ := list6 hl
  simp only [cInt, cFr, cLks, List.drop, List.take] at h0 h1 h2 h3
  obtain ⟨pr, rfl⟩ := dy_int h0
  obtain ⟨od, rfl⟩ := dy_int h1
  obtain ⟨f, A, n, c, B, m, d', C, p, q, e2, f1, f2, f3⟩ := rf_open h2
  obtain ⟨V, vn, vc, vs, e3, hV⟩ := sll_open h3
  simp only [List.cons.injEq, and_true] at e2 e3
  subst e3
  obtain ⟨rfl, rfl, rfl⟩ := e2
  exact ⟨⟨pr, od, f, vs⟩, A, n, c, B, m, d', C, p, q, V, vn, vc, rfl, f1, f2, f3, hV⟩
set_option maxRecDepth 100000 in
/-- An argument that is a certificate. -/
theorem ct_open {b0 : Nat} {v : Value} {d : DataW H} {p : List MemPlace} (hv : Value.okWide Tryz.prog W .any b0 42 v) (h : DataW.Trod enc Tryz.prog W 0 (fun _ => true) true 42 v d p) :
    ∃ (vs : List Value) (x : Ct), v = .agg vs.toArray ∧ RC W vs x := by
  obtain ⟨cs, rfl, _⟩ := okWide_struct Tryz.underlying42 hv
  obtain ⟨fuel, hf⟩ := h
  obtain ⟨x, hx⟩ := rc_open hf
  exact ⟨_, x, by simp [Value.cells], hx⟩
end

end Go.Proofs.YtekajoifgdpmlaaGreatDoor

/-! K2 -/
namespace Go.Proofs.YtekajoifgdpmlaaGreatDoor
open Go.ChangeShapes Go.WideShapes Go.ChangeAt Go.RowKit Go.Shelf Pl

theorem iface_list {P : Program} {w : World} {t : TypeId} {ms : Array (String × TypeId)} {fuel : Nat} {l : List Value} {nm : String} {y : DataW Unit} {p : List MemPlace} (hi : P.underlying t = some (.interface ms))
    (h : DataW.trod (fun _ => ()) P w 0 (fun _ => true) false fuel t l = some (.iface nm y, p)) : ∃ u v, l = [.iface u v] := by
  cases fuel with
  | zero => unfold DataW.trod at h; cases h
  | succ fuel =>
    unfold DataW.trod at h
    rw [hi] at h
    rcases l with _ | ⟨c, _ | ⟨c2, l⟩⟩
    · simp at h
    · cases c <;> first | exact ⟨_, _, rfl⟩ | simp at h
    · simp at h
theorem iface_cell {P : Program} {n nm : String} {y : DataW Unit} {r : List (String × DataW Unit)} {W : World} {g : Nat} {ti : TypeId} {ms : Array (String × TypeId)} (h : laidMet P ((n, .iface nm y) :: r) W)
    (hg : P.globalNamed n = some g) (ht : (P.globals[g]?).map (·.type) = some ti) (hi : P.underlying ti = some (.interface ms)) : ∃ u v, W.cell? ⟨g, 0, none⟩ = some (.iface u v) := by
  obtain ⟨ps, ⟨g0, t0, cs0, f0, p0, q0, hg0, ht0, hv0, hd0, _, e0⟩, _, _⟩ := h
  obtain rfl := Option.some.inj (hg.symm.trans hg0)
  obtain rfl := Option.some.inj (ht.symm.trans ht0)
  obtain ⟨u, v, e⟩ := iface_list hi hd0
  refine ⟨u, v, ?_⟩
  rw [World.var?_cell hg0 hv0 0, ← Array.getElem?_toList, e]
  rfl
theorem gRng : Tryz.prog.globalNamed "strconv.ErrRange" = some 2 := by kernel_rfl
theorem gRngT : (Tryz.prog.globals[2]?).map (·.type) = some 69 := by kernel_rfl
theorem gSyn : Tryz.prog.globalNamed "strconv.ErrSyntax" = some 1 := by kernel_rfl
theorem gSynT : (Tryz.prog.globals[1]?).map (·.type) = some 69 := by kernel_rfl
theorem max_of {W : World} (h : W.ShapedOpen Tryz.prog) : ∃ m, W.cell? ⟨0, 0, none⟩ = some (.int .i64 m) :=
  Go.Proofs.cell_of_shapedOpen_int (zero := #[.int .i64 0]) (t := 3) h (of_decide_eq_true (by kernel_rfl)) (by kernel_rfl) rfl (by kernel_rfl) (by kernel_rfl) Tryz.underlying3
theorem cell_lt {W : World} {g : Nat} {v : Value} (h : W.cell? ⟨g, 0, none⟩ = some v) : g < W.heap.size := World.block_lt_of_cell? W ⟨g, 0, none⟩ h
/-- What every row of the certificate laws lists. -/
theorem ev_of {W : World} (h : laidMet Tryz.prog Rows.certificateValidRow.laid W) (hs : W.ShapedOpen Tryz.prog) : Ev W.heap.size W := by
  have hT := tabs_of h
  have hN := tens_of h
  obtain ⟨m, hm⟩ := max_of hs
  obtain ⟨u, v, hr⟩ := iface_cell (laidMet.tail (laidMet.tail (laidMet.tail (laidMet.tail h)))) gRng gRngT Tryz.underlying69
  obtain ⟨u', v', hy⟩ := iface_cell (laidMet.tail (laidMet.tail (laidMet.tail (laidMet.tail (laidMet.tail h))))) gSyn gSynT Tryz.underlying69
  exact fun W' hb => ⟨hT.next hb, hN.next hb, ⟨m, (hb.cell (cell_lt hm)).trans hm⟩, ⟨_, (hb.cell (cell_lt hy)).trans hy, .inr ⟨_, _, rfl⟩⟩, ⟨_, (hb.cell (cell_lt hr)).trans hr, .inr ⟨_, _, rfl⟩⟩⟩

def litV : DataW Unit → Value
  | .lit (.int k n) => .int k n
  | _ => undef
def aggV : DataW Unit → List (DataW Unit)
  | .agg l => l
  | _ => []
/-- THE SAME WORLD, the tables of utf8 laid besides. -/
noncomputable def laidWorld3 (os : Os) : World :=
  { laidWorld2 os with heap := ((laidWorld2 os).heap.modify 6 (putCells ((aggV Rows.laid_unicode_utf8_first).map litV).toArray)).modify 7 (putCells ((aggV Rows.laid_unicode_utf8_acceptRanges).flatMap (fun d => (aggV d).map litV)).toArray) }
set_option maxRecDepth 100000 in
theorem laid_met46 (os : Os) (W : Array Value) : laidMet Tryz.prog Rows.certificateValidRow.laid ((laidWorld3 os).forCall (fun _ _ => 0) ⟨#[], W, []⟩).memory :=
  laidMet_of_run' 8 (by kernel_rfl) (by kernel_rfl)

end Go.Proofs.YtekajoifgdpmlaaGreatDoor
