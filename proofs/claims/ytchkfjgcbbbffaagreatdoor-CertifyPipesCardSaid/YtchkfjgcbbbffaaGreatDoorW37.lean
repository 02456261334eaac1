/- Bundle 37: what the law's walk stands on: FPipe3. -/
import Derived.Test.YtchkfjgcbbbffaaGreatDoorTie
import Derived.ProofKit
import Derived.JoinedCond
set_option maxRecDepth 100000
set_option maxHeartbeats 20000000
set_option linter.all false
noncomputable section
namespace Go.Proofs.YtchkfjgcbbbffaaGreatDoor.FPipe
open Go.ChangeShapes Go.WideShapes Go.ChangeAt Go.RowKit
theorem c12:(Rows.certifyPipesRow.recurses == Tryz.prog.recurses 6)=true:=by kernel_rfl
end Go.Proofs.YtchkfjgcbbbffaaGreatDoor.FPipe
end
