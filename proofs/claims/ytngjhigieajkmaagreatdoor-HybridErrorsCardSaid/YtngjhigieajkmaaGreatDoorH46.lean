/- Bundle 46: what the law's walk stands on: Ti4. -/
import Derived.Test.YtngjhigieajkmaaGreatDoorCards
import Derived.LaidByTextLater
import Derived.SevenTiedAt
set_option maxRecDepth 100000
set_option maxHeartbeats 20000000
set_option linter.all false
noncomputable section
namespace Go.Proofs.YtngjhigieajkmaaGreatDoor
open Go
theorem ti4:Tryz.prog.worded (varsWordLater true)=true:=by kernel_rfl
theorem ti5:Tryz.prog.worded (varsWordLater !true)=false:=by kernel_rfl
theorem ti6:Tryz.prog.worded rootWordLater=true:=by kernel_rfl
theorem ti7:([("math/bits.deBruijn64tab",Rows.laid_math_bits_deBruijn64tab),("math/bits.deBruijn32tab",Rows.laid_math_bits_deBruijn32tab)]:List (String×DataW Unit)).map (fun x=>Tryz.prog.kindOfLater x.1)=[LaidKind.data,.data].map some:=by kernel_rfl
theorem ti8:(Tryz.prog.funcNamed "gosem.cut.vars").isSome=true:=by kernel_rfl
theorem ti9:varsNamedLaterB Tryz.prog (varsId Tryz.prog) ([("math/bits.deBruijn64tab",Rows.laid_math_bits_deBruijn64tab),("math/bits.deBruijn32tab",Rows.laid_math_bits_deBruijn32tab)]:List (String×DataW Unit))=true:=by kernel_rfl
theorem ti0:Tryz.pinned.checked.prog.headLifts.contains "ownunsafe" = false:=by kernel_rfl
end Go.Proofs.YtngjhigieajkmaaGreatDoor
end
