/- The table of powers of ten, out of what every row of this seat lists. -/
import Derived.Test.YtjhokljoomeilaaGreatDoorKit2
import Derived.Test.YtjhokljoomeilaaGreatDoorTA
import Derived.Stop.LaidErr
namespace Go.Proofs.YtjhokljoomeilaaGreatDoor
open Go.RowKit Pl Go.Shelf

theorem gTen : Tryz.prog.globalNamed "internal/strconv.uint64pow10" = some 5 := by kernel_rfl
theorem gTenType : (Tryz.prog.globals[5]?).map (·.type) = some 142 := by kernel_rfl
theorem cellsTen : Tryz.prog.cellsOf 142 = 20 := by kernel_rfl
theorem cells64 : Tryz.prog.cellsOf 79 = 1 := by kernel_rfl
theorem tens_of {W : World} {x y : String × DataW Unit} {rest : List (String × DataW Unit)} (h : laidMet Tryz.prog (x :: y :: ("internal/strconv.uint64pow10", Rows.laid_internal_strconv_uint64pow10) :: rest) W) : Tens W := by
  have h2 := (laidMet.tail (laidMet.tail h))
  have h' : laidMet Tryz.prog (("internal/strconv.uint64pow10", Lib.tabData .u64 Lib.pow10Tab) :: rest) W := h2
  exact Lib.tabIs_of_head (rest := rest) gTen gTenType Tryz.underlying142 Tryz.underlying79 cells64 cellsTen h'

/-- THE SAME WORLD, the two errors of strconv laid besides. -/
noncomputable def laidWorld2 (os : Os) : World :=
  { laidWorld os with heap := (((((laidWorld os).heap.modify 4 (putCells #[.iface 148 (.pointer (some ⟨(laidWorld os).heap.size, 0, none⟩))])).modify 3 (putCells #[.iface 148 (.pointer (some ⟨(laidWorld os).heap.size + 1, 0, none⟩))])).push (.cells #[.string ⟨#[118, 97, 108, 117, 101, 32, 111, 117, 116, 32, 111, 102, 32, 114, 97, 110, 103, 101]⟩] 150)).push (.cells #[.string ⟨#[105, 110, 118, 97, 108, 105, 100, 32, 115, 121, 110, 116, 97, 120]⟩] 150)) }

end Go.Proofs.YtjhokljoomeilaaGreatDoor
