/- Bundle 30: what the law's walk stands on: V4t. -/
import Derived.Test.YtngjhigieajkmaaGreatDoorH23
import Derived.Test.YtngjhigieajkmaaGreatDoorH24
import Derived.Test.YtngjhigieajkmaaGreatDoorH29
set_option maxRecDepth 100000
set_option maxHeartbeats 20000000
set_option linter.all false
noncomputable section
namespace Go.Proofs.YtngjhigieajkmaaGreatDoor
def zci:ME:=⟨4,[(none,1),(none,2),(none,5),(none,10)],[.agg [cI 1,.sl 0 0 1 6 none,.sl 1 0 1 1 none,cI 1,.v (.slice none 0 0)],.sl 2 0 1 7 none,.agg [cI 1,cI 4,cI 50,cF,.sl 3 0 1 1 none,cJ 2,cI 16,cI 60]],[(3,.cells [.i .u32 (.ofNat 1)]),(2,.cells [cF,.v (.slice none 0 0),cI 0,cF,.v (.slice none 0 0),cI 0,cF]),(1,.cells [cI 1]),(0,.cells [cI 1,cI 0,cI 0,cI 0,cI 1,cI 1])],.tup [.agg [cF,.lim 1,cJ 2],cI 0],[],6123⟩
theorem zit:zAK Tryz.prog glo 112 zci:=
 (zAM [(247,[mE3]),(176,[zV3])] (zAD (zAC mO3 (zAJ _ _ _)) (zAD (zAC zf8 (zAJ _ _ _)) (zAI _ _)))).entry 100000 112 zci (by kernel_rfl) (by kernel_rfl)
end Go.Proofs.YtngjhigieajkmaaGreatDoor
end
