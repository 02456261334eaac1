/- Bundle 2: what the law's walk stands on: Lo2. -/
import Derived.Test.YtngjhigieajkmaaGreatDoorCards
import Derived.ProofKit
set_option maxRecDepth 100000
set_option maxHeartbeats 20000000
set_option linter.all false
noncomputable section
namespace Go.Proofs.YtngjhigieajkmaaGreatDoor
open Go
theorem lo2:(List.range' 215 215).all (rowFine Tryz.prog)=true:=by kernel_rfl
end Go.Proofs.YtngjhigieajkmaaGreatDoor
end
