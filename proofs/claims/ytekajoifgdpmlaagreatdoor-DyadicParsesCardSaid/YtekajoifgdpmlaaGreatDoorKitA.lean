/- KitA: several texts in one. -/
import Derived.Test.YtekajoifgdpmlaaGreatDoorCards
import Derived.Test.YtekajoifgdpmlaaGreatDoorTie
import Derived.Test.YtekajoifgdpmlaaGreatDoorL1
import Derived.ProofKit
import Derived.OpenShut
import Derived.Deep.DeepHandedRow
import Derived.Lib.LaidTab
import Derived.Lib.SmallJoins
import Derived.Test.YtekajoifgdpmlaaGreatDoorTA
import Derived.Stop.LaidErr
/-! From the walks to the rows: what the laws of this seat have in common. -/
namespace Go.Proofs.YtekajoifgdpmlaaGreatDoor
open Go.ChangeShapes Go.WideShapes Go.ChangeAt Go.RowKit Go.Shelf Pl

theorem kown : ownKnob Tryz.prog.godebug = none := by kernel_rfl
theorem klaidOut : laidOutB Tryz.prog = true := by kernel_rfl
theorem gTab : Tryz.prog.globalNamed "math/bits.deBruijn32tab" = some 3 := by kernel_rfl
theorem gTabType : (Tryz.prog.globals[3]?).map (·.type) = some 202 := by kernel_rfl
theorem cellsTab : Tryz.prog.cellsOf 202 = 32 := by kernel_rfl
theorem cells8 : Tryz.prog.cellsOf 5 = 1 := by kernel_rfl
theorem cells32 : Tryz.prog.cellsOf 60 = 1 := by kernel_rfl
theorem cellsD : Tryz.prog.cellsOf 25 = 3 := by kernel_rfl

def tab32 : List Int := Lib.deBruijn32tab.map (fun n : Nat => (n : Int))
def tab64 : List Int := Lib.deBruijn64tab.map (fun n : Nat => (n : Int))
/-- What every row of this seat lists. -/
theorem tabs_of {W : World} {rest : List (String × DataW Unit)} (h : laidMet Tryz.prog (("math/bits.deBruijn32tab", Rows.laid_math_bits_deBruijn32tab) :: rest) W) : Tabs W := by
  have h' : laidMet Tryz.prog (("math/bits.deBruijn32tab", Lib.tabData .u8 tab32) :: rest) W := h
  have ht := Lib.tabIs_of_head (rest := rest) gTab gTabType Tryz.underlying202 Tryz.underlying5 cells8 cellsTab h'
  intro j hj
  have hj' : j < tab32.length := by simpa [tab32] using hj
  have := ht.cell gTab j hj'
  rw [this]
  congr 2
  simp [tab32, List.getD, hj]

/-- An argument that is a slice of uint32 reads as limbs. -/
theorem sl_of_trod {H : Type} {enc : TypeId × Value → H} {W : World} {base fuel : Nat} {v : Value} {x : DataW H × List MemPlace} (hf : DataW.trod enc Tryz.prog W base (fun _ => true) true fuel 23 [v] = some x) :
    ∃ A n c l, v = .slice A n c ∧ SL W A n c l := by
  rcases open_ints Tryz.underlying23 Tryz.underlying60 cells32 hf with ⟨hcs, _⟩ | ⟨a, len, cap, zs, hcs, _, hl, hm, hz, _, hcell, hwz⟩
  · injection hcs with e _
    exact ⟨none, 0, 0, [], e, SL.nil W⟩
  · injection hcs with e _
    rw [if_pos rfl] at hz
    refine ⟨some a, len, cap, (zs.take len).map Int.toNat, e, ⟨by simp [hz]; omega, hl, by simpa [maxLen] using hm, ?_, ?_⟩⟩
    · intro y hy
      obtain ⟨z, hz1, rfl⟩ := List.mem_map.1 hy
      have := bounds_u32 (hwz z (List.mem_of_mem_take hz1))
      omega
    · intro hn
      obtain ⟨b, off, rfl, hc⟩ := ints_at hcell (by omega)
      have hlt : b < W.heap.size := by
        have := hc 0 (by omega)
        rcases Nat.lt_or_ge b W.heap.size with hlt | hge
        · exact hlt
        · simp [World.cell?, Array.getElem?_eq_none hge] at this
      refine ⟨b, off, rfl, hlt, fun j y hy => ?_⟩
      have hj : j < len := by
        rcases Nat.lt_or_ge j len with h' | h'
        · exact h'
        · rw [List.getElem?_eq_none (by simp; omega)] at hy; cases hy
      have hzj : zs[j]? = some zs[j] := List.getElem?_eq_getElem (by omega)
      have hw := bounds_u32 (hwz zs[j] (List.getElem_mem (by omega)))
      have hy2 : y = (zs[j]).toNat := by
        rw [List.getElem?_map, List.getElem?_take_of_lt hj, hzj] at hy
        simpa using hy.symm
      rw [hc j (by omega)]
      simp only [List.getD, hzj, Option.getD_some, hy2]
      congr 2
      omega

/-- An argument reads behind the call as it read before it. -/
theorem stays {H : Type} {enc : TypeId × Value → H} {t : TypeId} {W W' : World} {sp : Nat → Bool} {v : Value} {d : DataW H} {ps : List MemPlace} (hr : Tryz.prog.readableRec t = true) (hrow : decide (t < Tryz.prog.types.size) = true)
    (h : DataW.Trod enc Tryz.prog W 0 (fun _ => true) true t v d ps) (hb : Below W.heap.size W W') (hlt : ∀ x ∈ ps, x.block < W.heap.size) (hsp : ∀ x ∈ ps, sp x.block = true) : DataW.Trod enc Tryz.prog W' 0 sp true t v d ps :=
  WideElems.Trod_stays klaidOut hr (of_decide_eq_true hrow) h (fun x hx => hb.same (hlt x hx)) hsp

section
variable {H : Type} {enc : TypeId × Value → H} {P : Program}
/-- The row's last step out of 'Below'. -/
theorem post_of_below {f : Func} {s : ChangeSpec} {apart fresh handsOn again : Bool} {W W' : World} {args : Array Value} {v : Value} {ds gs : List (DataW H)} {before pa pv : List MemPlace}
    (hW : DataW.Whole enc P f.params.toList s.vars apart W args.toList ds gs before)
    (hres : ∀ (b : Nat) (sp : Nat → Bool) (hd : Bool), DataW.TrodAll enc P W' b sp hd f.resultTypes.toList (v.resultList f.resultTypes.size) (s.fn H (ds ++ gs)).results [])
    (hargs : ∀ sp : Nat → Bool, (∀ p ∈ before, sp p.block = true) → DataW.TrodAll enc P W' 0 sp true f.params.toList args.toList (s.fn H (ds ++ gs)).args pa)
    (hvars : ∀ sp : Nat → Bool, (∀ p ∈ before, sp p.block = true) → DataW.TrodVars enc P W' sp s.vars (s.fn H (ds ++ gs)).vars pv)
    (hps : before = pa ++ pv) (hb : Below W.heap.size W W')
    (hok : ∀ (j : Nat) (t : TypeId) (r : Value), f.resultTypes[j]? = some t → (v.resultList f.resultTypes.size)[j]? = some r → Value.okWide P W' .any 0 t r) :
    s.post enc P f apart fresh handsOn again W args v W' := by
  have hlt : ∀ p ∈ before, p.block < W.heap.size := fun p hp => hW.lt p hp
  have hold : ∀ p ∈ before, (fun b => decide (b < W.heap.size)) p.block = true := fun p hp => by simpa using hlt p hp
  refine ⟨ds, gs, before, [], pa, pv, hW, hres _ _ _, hargs _ hold, hvars _ hold, World.keptBut_mono (fun p hp => ⟨hp, ?_⟩) (hb.frame (· ∈ before)), fun _ => ?_⟩
  · rw [hps, List.mem_append] at hp
    exact Or.inr hp
  · obtain ⟨_, _, _, _, _, hz, hn⟩ := hW
    refine ⟨hok, _, _, ([] ++ pa) ++ pv, ⟨[] ++ pa, pv, trodAll_append (hargs _ (fun _ _ => rfl)) (hres _ _ _), hvars _ (fun _ _ => rfl), rfl, ?_, ?_⟩, ?_⟩
    · intro b off hp
      have hin : MemPlace.cell b off ∈ before := by rw [hps]; simpa using hp
      rw [hb.frozen (hlt _ hin)]
      exact hz b off hin
    · intro ha
      have := hn ha
      rw [hps] at this
      simpa using this
    · intro p hp _
      rw [hps]
      simpa using hp
end

/-- A block with other cells. -/
def putCells (cs : Array Value) : Obj → Obj
  | .cells _ t frozen => .cells cs t frozen
  | o => o
/-- A WORLD FOR THE WITNESSES: the settled one, the tables holding what their initialisers lay. -/
noncomputable def laidWorld (os : Os) : World :=
  { World.holding Tryz.prog os ⟨#[], #[], []⟩ with heap := (((World.holding Tryz.prog os ⟨#[], #[], []⟩).heap.modify 3 (putCells (tab32.map fun z => Value.int .u8 z).toArray)).modify 8 (putCells (tab64.map fun z => Value.int .u8 z).toArray)).modify 5 (putCells (Lib.pow10Tab.map fun z => Value.int .u64 z).toArray) }

end Go.Proofs.YtekajoifgdpmlaaGreatDoor

/-! Arguments that are dyadic numbers: what they read as. -/
namespace Go.Proofs.YtekajoifgdpmlaaGreatDoor
open Go.ChangeShapes Go.WideShapes Go.ChangeAt Go.RowKit Go.Shelf Pl

theorem dy_bool {H : Type} {enc : TypeId × Value → H} {W : World} {base fuel : Nat} {v : Value} {x : DataW H × List MemPlace} (hf : DataW.trod enc Tryz.prog W base (fun _ => true) true fuel 4 [v] = some x) : ∃ b : Bool, v = .bool b := by
  obtain ⟨b, h, _⟩ := DataW.trod_bool Tryz.underlying4 hf
  injection h with e _
  exact ⟨b, e⟩
theorem dy_int {H : Type} {enc : TypeId × Value → H} {W : World} {base fuel : Nat} {v : Value} {x : DataW H × List MemPlace} (hf : DataW.trod enc Tryz.prog W base (fun _ => true) true fuel 3 [v] = some x) : ∃ n : Int, v = .int .i64 n := by
  obtain ⟨n, h, _⟩ := DataW.trod_int Tryz.underlying3 hf
  injection h with e _
  exact ⟨n, e⟩
set_option maxRecDepth 100000 in
/-- An argument that is a dyadic number. -/
theorem dy_open {H : Type} {enc : TypeId × Value → H} {W : World} {b0 : Nat} {v : Value} {d : DataW H} {p : List MemPlace} (hv : Value.okWide Tryz.prog W .any b0 25 v) (h : DataW.Trod enc Tryz.prog W 0 (fun _ => true) true 25 v d p) :
    ∃ (ng : Bool) (A : Option Addr) (n c : Nat) (l : List Nat) (ex : Int), v = .agg #[.bool ng, .slice A n c, .int .i64 ex] ∧ SL W A n c l := by
  obtain ⟨u0, u1, u2, y0, y1, y2, m, rfl, _, _, hy0, hy1, hy2⟩ := Joins.open_agg3 Tryz.underlying25 (by kernel_rfl) cellsD hv h
  obtain ⟨ng, rfl⟩ := dy_bool hy0
  obtain ⟨A, n, c, l, rfl, hS⟩ := sl_of_trod hy1
  obtain ⟨ex, rfl⟩ := dy_int hy2
  exact ⟨ng, A, n, c, l, ex, rfl, hS⟩

end Go.Proofs.YtekajoifgdpmlaaGreatDoor

/-! The table of powers of ten, out of what every row of this seat lists. -/
namespace Go.Proofs.YtekajoifgdpmlaaGreatDoor
open Go.RowKit Pl Go.Shelf

theorem gTen : Tryz.prog.globalNamed "internal/strconv.uint64pow10" = some 5 := by kernel_rfl
theorem gTenType : (Tryz.prog.globals[5]?).map (·.type) = some 221 := by kernel_rfl
theorem cellsTen : Tryz.prog.cellsOf 221 = 20 := by kernel_rfl
theorem cells64 : Tryz.prog.cellsOf 129 = 1 := by kernel_rfl
theorem tens_of {W : World} {x y : String × DataW Unit} {rest : List (String × DataW Unit)} (h : laidMet Tryz.prog (x :: y :: ("internal/strconv.uint64pow10", Rows.laid_internal_strconv_uint64pow10) :: rest) W) : Tens W := by
  have h2 := (laidMet.tail (laidMet.tail h))
  have h' : laidMet Tryz.prog (("internal/strconv.uint64pow10", Lib.tabData .u64 Lib.pow10Tab) :: rest) W := h2
  exact Lib.tabIs_of_head (rest := rest) gTen gTenType Tryz.underlying221 Tryz.underlying129 cells64 cellsTen h'

/-- THE SAME WORLD, the two errors of strconv laid besides. -/
noncomputable def laidWorld2 (os : Os) : World :=
  { laidWorld os with heap := (((((laidWorld os).heap.modify 2 (putCells #[.iface 217 (.pointer (some ⟨(laidWorld os).heap.size, 0, none⟩))])).modify 1 (putCells #[.iface 217 (.pointer (some ⟨(laidWorld os).heap.size + 1, 0, none⟩))])).push (.cells #[.string ⟨#[118, 97, 108, 117, 101, 32, 111, 117, 116, 32, 111, 102, 32, 114, 97, 110, 103, 101]⟩] 219)).push (.cells #[.string ⟨#[105, 110, 118, 97, 108, 105, 100, 32, 115, 121, 110, 116, 97, 120]⟩] 219)) }

end Go.Proofs.YtekajoifgdpmlaaGreatDoor
