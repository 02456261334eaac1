/- Bundle 3: what the law's walk stands on: Lo3. -/
import Derived.Test.YtngjhigieajkmaaGreatDoorCards
import Derived.ProofKit
set_option maxRecDepth 100000
set_option maxHeartbeats 20000000
set_option linter.all false
noncomputable section
namespace Go.Proofs.YtngjhigieajkmaaGreatDoor
open Go
theorem lo3:(List.range' 430 215).all (rowFine Tryz.prog)=true:=by kernel_rfl
theorem lo4:Tryz.prog.globals.all (fun g=>decide (g.type<Tryz.prog.types.size))=true:=by kernel_rfl
theorem lo5:Tryz.prog.funcs.all (fun f=>f.params.all fun t=>decide (t<Tryz.prog.types.size))=true:=by kernel_rfl
end Go.Proofs.YtngjhigieajkmaaGreatDoor
end
