/- Bundle 47: what the law's walk stands on: Ti5. -/
import Derived.Test.YtngjhigieajkmaaGreatDoorH43
import Derived.Test.YtngjhigieajkmaaGreatDoorH44
import Derived.Test.YtngjhigieajkmaaGreatDoorH45
import Derived.Test.YtngjhigieajkmaaGreatDoorH46
set_option maxRecDepth 100000
set_option maxHeartbeats 20000000
set_option linter.all false
noncomputable section
namespace Go.Proofs.YtngjhigieajkmaaGreatDoor
open Go
theorem ti:Tryz.prog.laidByTextLater [("math/bits.deBruijn64tab",Rows.laid_math_bits_deBruijn64tab),("math/bits.deBruijn32tab",Rows.laid_math_bits_deBruijn32tab)] [.data,.data] true:=
 Program.laidByTextLater_by_run 400 8 ti4 ti5 ti6 ti7 ti8 ti9 ti1 ti2 ti3
theorem ztm:Rows.hybridErrorsRow.laidByTextAt .later Tryz.pinned [.data,.data] true:=
 OpenClaim.laidByTextAt_later rfl rfl ti ti0
end Go.Proofs.YtngjhigieajkmaaGreatDoor
end
