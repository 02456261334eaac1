/- Arguments that are dyadic numbers: what they read as. -/
import Derived.Test.YtjhokljoomeilaaGreatDoorKit
namespace Go.Proofs.YtjhokljoomeilaaGreatDoor
open Go.ChangeShapes Go.WideShapes Go.ChangeAt Go.RowKit Go.Shelf Pl

theorem dy_bool {H : Type} {enc : TypeId × Value → H} {W : World} {base fuel : Nat} {v : Value} {x : DataW H × List MemPlace} (hf : DataW.trod enc Tryz.prog W base (fun _ => true) true fuel 4 [v] = some x) : ∃ b : Bool, v = .bool b := by
  obtain ⟨b, h, _⟩ := DataW.trod_bool Tryz.underlying4 hf
  injection h with e _
  exact ⟨b, e⟩
theorem dy_int {H : Type} {enc : TypeId × Value → H} {W : World} {base fuel : Nat} {v : Value} {x : DataW H × List MemPlace} (hf : DataW.trod enc Tryz.prog W base (fun _ => true) true fuel 3 [v] = some x) : ∃ n : Int, v = .int .i64 n := by
  obtain ⟨n, h, _⟩ := DataW.trod_int Tryz.underlying3 hf
  injection h with e _
  exact ⟨n, e⟩
set_option maxRecDepth 100000 in
/-- An argument that is a dyadic number. -/
theorem dy_open {H : Type} {enc : TypeId × Value → H} {W : World} {b0 : Nat} {v : Value} {d : DataW H} {p : List MemPlace} (hv : Value.okWide Tryz.prog W .any b0 24 v) (h : DataW.Trod enc Tryz.prog W 0 (fun _ => true) true 24 v d p) :
    ∃ (ng : Bool) (A : Option Addr) (n c : Nat) (l : List Nat) (ex : Int), v = .agg #[.bool ng, .slice A n c, .int .i64 ex] ∧ SL W A n c l := by
  obtain ⟨u0, u1, u2, y0, y1, y2, m, rfl, _, _, hy0, hy1, hy2⟩ := Joins.open_agg3 Tryz.underlying24 (by kernel_rfl) cellsD hv h
  obtain ⟨ng, rfl⟩ := dy_bool hy0
  obtain ⟨A, n, c, l, rfl, hS⟩ := sl_of_trod hy1
  obtain ⟨ex, rfl⟩ := dy_int hy2
  exact ⟨ng, A, n, c, l, ex, rfl, hS⟩

end Go.Proofs.YtjhokljoomeilaaGreatDoor
