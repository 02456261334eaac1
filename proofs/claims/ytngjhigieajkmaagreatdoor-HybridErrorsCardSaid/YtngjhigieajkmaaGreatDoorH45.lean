/- Bundle 45: what the law's walk stands on: Ti3. -/
import Derived.Test.YtngjhigieajkmaaGreatDoorCards
import Derived.LaidByTextLater
import Derived.SevenTiedAt
set_option maxRecDepth 100000
set_option maxHeartbeats 20000000
set_option linter.all false
noncomputable section
namespace Go.Proofs.YtngjhigieajkmaaGreatDoor
open Go
theorem ti3:∀os tape,(DataW.laidRun Tryz.prog (varsWorld Tryz.prog 400 (varsId Tryz.prog) os tape).memory 8 (([("math/bits.deBruijn64tab",Rows.laid_math_bits_deBruijn64tab),("math/bits.deBruijn32tab",Rows.laid_math_bits_deBruijn32tab)]:List (String×DataW Unit)).map (·.1))).map (fun x=>decide x.2.Nodup && laidRowsB Tryz.prog (varsWorld Tryz.prog 400 (varsId Tryz.prog) os tape).memory x.2)=some true:=fun _ _=>by kernel_rfl
end Go.Proofs.YtngjhigieajkmaaGreatDoor
end
