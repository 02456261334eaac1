/- Bundle 34: what the law's walk stands on: V11t. -/
import Derived.Test.YtngjhigieajkmaaGreatDoorH23
import Derived.Test.YtngjhigieajkmaaGreatDoorH25
import Derived.Test.YtngjhigieajkmaaGreatDoorH32
import Derived.Test.YtngjhigieajkmaaGreatDoorH33
set_option maxRecDepth 100000
set_option maxHeartbeats 20000000
set_option linter.all false
noncomputable section
namespace Go.Proofs.YtngjhigieajkmaaGreatDoor
def zvF:ME:=⟨3,[(none,1),(none,2),(none,5)],[.agg [cI 1,.sl 0 0 1 6 none,.sl 1 0 1 1 none,cI 1,.v (.slice none 0 0)],.sl 2 0 1 7 none,.agg [cF,.lim 253,cJ 10],cI 4,cI 50],[(2,.cells [cF,.lim 253,cJ 10,cF,.lim 253,cJ 10,cF]),(1,.cells [cI 1]),(0,.cells [cI 1,cI 0,cI 0,cI 0,cI 1,cI 1])],.tup [.sl 6683 0 1 7 none,.sl 9271 0 1 7 none,cI 0],[(9271,.cells [cF,.lim 253,cJ 9,cF,.lim 253,cJ 9,cF]),(6683,.cells [cF,.lim 253,cJ 10,cF,.lim 253,cJ 9,cF])],9272⟩
theorem zxg:zAK Tryz.prog glo 488 zvF:=
 (zAM [(253,[zu5,zu6,zu7,zu8,zu9,zvA,zvB,zts]),(489,[zvC]),(247,[ztr]),(268,[zvD]),(269,[zvE])] (zAD (zAC zxW (zAC zxX (zAC zxY (zAC zxZ (zAC zxa (zAC zxb (zAC zxc (zAC zvz (zAJ _ _ _))))))))) (zAD (zAC zxd (zAJ _ _ _)) (zAD (zAC zvy (zAJ _ _ _)) (zAD (zAC zxe (zAJ _ _ _)) (zAD (zAC zxf (zAJ _ _ _)) (zAI _ _))))))).entry 100000 488 zvF (by kernel_rfl) (by kernel_rfl)
end Go.Proofs.YtngjhigieajkmaaGreatDoor
end
