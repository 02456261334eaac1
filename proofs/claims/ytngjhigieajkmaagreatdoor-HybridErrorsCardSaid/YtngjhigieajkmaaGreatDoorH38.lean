/- Bundle 38: what the law's walk stands on: FHErr1. -/
import Derived.Test.YtngjhigieajkmaaGreatDoorCards
import Derived.ProofKit
import Derived.JoinedCond
set_option maxRecDepth 100000
set_option maxHeartbeats 20000000
set_option linter.all false
noncomputable section
namespace Go.Proofs.YtngjhigieajkmaaGreatDoor.FHErr
open Go.ChangeShapes Go.WideShapes Go.ChangeAt Go.RowKit
theorem c10:(Rows.hybridErrorsRow.inPlace == Tryz.prog.inPlace 3)=true:=by kernel_rfl
end Go.Proofs.YtngjhigieajkmaaGreatDoor.FHErr
end
