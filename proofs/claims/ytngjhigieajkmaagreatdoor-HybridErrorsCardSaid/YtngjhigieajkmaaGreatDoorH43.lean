/- Bundle 43: what the law's walk stands on: Ti1. -/
import Derived.Test.YtngjhigieajkmaaGreatDoorCards
import Derived.LaidByTextLater
import Derived.SevenTiedAt
set_option maxRecDepth 100000
set_option maxHeartbeats 20000000
set_option linter.all false
noncomputable section
namespace Go.Proofs.YtngjhigieajkmaaGreatDoor
open Go
theorem ti1:∀os tape,varsDone Tryz.prog 400 (varsId Tryz.prog) os tape=true:=fun _ _=>by kernel_rfl
end Go.Proofs.YtngjhigieajkmaaGreatDoor
end
