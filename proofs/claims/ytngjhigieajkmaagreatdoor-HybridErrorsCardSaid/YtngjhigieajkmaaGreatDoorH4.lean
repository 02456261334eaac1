/- Bundle 4: what the law's walk stands on: Lo4. -/
import Derived.Test.YtngjhigieajkmaaGreatDoorH1
import Derived.Test.YtngjhigieajkmaaGreatDoorH2
import Derived.Test.YtngjhigieajkmaaGreatDoorH3
set_option maxRecDepth 100000
set_option maxHeartbeats 20000000
set_option linter.all false
noncomputable section
namespace Go.Proofs.YtngjhigieajkmaaGreatDoor
open Go
theorem lo6:Tryz.prog.types.size=645:=by kernel_rfl
theorem lo7:List.range 645=List.range' 0 215++(List.range' 215 215++List.range' 430 215):=by kernel_rfl
theorem zQN:laidOutB Tryz.prog=true:=by
 unfold laidOutB;rw [lo4,lo5,lo6,lo7,List.all_append,List.all_append,lo1,lo2,lo3];rfl
end Go.Proofs.YtngjhigieajkmaaGreatDoor
end
