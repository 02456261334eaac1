/- Bundle 35: what the law's walk stands on: V12t. -/
import Derived.Test.YtngjhigieajkmaaGreatDoorH23
import Derived.Test.YtngjhigieajkmaaGreatDoorH25
import Derived.Test.YtngjhigieajkmaaGreatDoorH27
import Derived.Test.YtngjhigieajkmaaGreatDoorH30
import Derived.Test.YtngjhigieajkmaaGreatDoorH33
import Derived.Test.YtngjhigieajkmaaGreatDoorH34
set_option maxRecDepth 100000
set_option maxHeartbeats 20000000
set_option linter.all false
noncomputable section
namespace Go.Proofs.YtngjhigieajkmaaGreatDoor
def zvG:ME:=⟨4,[(none,1),(none,2),(none,5),(none,13)],[.agg [cI 1,.sl 0 0 1 6 none,.sl 1 0 1 1 none,cI 1,.v (.slice none 0 0)],.sl 2 0 1 7 none,.agg [cF,.lim 253,cJ 9],.agg [cI 1,cI 4,cI 50,cF,.sl 3 0 1 1 none,cJ 2,cI 16,cI 60]],[(3,.cells [.i .u32 (.ofNat 1)]),(2,.cells [cF,.v (.slice none 0 0),cI 0,cF,.v (.slice none 0 0),cI 0,cF]),(1,.cells [cI 1]),(0,.cells [cI 1,cI 0,cI 0,cI 0,cI 1,cI 1])],.tup [.agg [.sl 32 0 1 7 none,.sl 30943 0 2 8 none],cI 0],[(30943,.cells [cF,.v (.slice none 0 0),cI 0,cF,.lim 253,cJ 10,.sl 12922 0 1 7 none,.sl 15533 0 1 7 none,cF,.lim 253,cJ 10,cF,.lim 253,cJ 9,.sl 28333 0 1 7 none,.sl 30940 0 1 7 none]),(30940,.cells [cF,.lim 253,cJ 9,cF,.lim 253,cJ 9,cF]),(28333,.cells [cF,.lim 253,cJ 10,cF,.lim 253,cJ 9,cF]),(15533,.cells [cF,.lim 253,cJ 10,cF,.lim 253,cJ 10,cF]),(12922,.cells [cF,.lim 0,cI 0,cF,.lim 253,cJ 10,cF]),(32,.cells [cF,.v (.slice none 0 0),cI 0,cF,.v (.slice none 0 0),cI 0,cF])],30944⟩
theorem zxh:zAK Tryz.prog glo 59 zvG:=
 (zAM [(112,[zci]),(253,[zun,zuo,zup,zuq,zur,zus,zut,ztq]),(489,[zuu]),(186,[zuv]),(247,[ztr]),(176,[zu4]),(488,[zvF])] (zAD (zAC zit (zAJ _ _ _)) (zAD (zAC zxE (zAC zxF (zAC zxG (zAC zxH (zAC zxI (zAC zxJ (zAC zxK (zAC zvx (zAJ _ _ _))))))))) (zAD (zAC zxL (zAJ _ _ _)) (zAD (zAC zxM (zAJ _ _ _)) (zAD (zAC zvy (zAJ _ _ _)) (zAD (zAC zxV (zAJ _ _ _)) (zAD (zAC zxg (zAJ _ _ _)) (zAI _ _))))))))).entry 100000 59 zvG (by kernel_rfl) (by kernel_rfl)
end Go.Proofs.YtngjhigieajkmaaGreatDoor
end
