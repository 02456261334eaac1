/- Bundle 36: what the law's walk stands on: V13t. -/
import Derived.Test.YtngjhigieajkmaaGreatDoorH23
import Derived.Test.YtngjhigieajkmaaGreatDoorH24
import Derived.Test.YtngjhigieajkmaaGreatDoorH25
import Derived.Test.YtngjhigieajkmaaGreatDoorH26
import Derived.Test.YtngjhigieajkmaaGreatDoorH27
import Derived.Test.YtngjhigieajkmaaGreatDoorH29
import Derived.Test.YtngjhigieajkmaaGreatDoorH30
import Derived.Test.YtngjhigieajkmaaGreatDoorH31
import Derived.Test.YtngjhigieajkmaaGreatDoorH32
import Derived.Test.YtngjhigieajkmaaGreatDoorH35
set_option maxRecDepth 100000
set_option maxHeartbeats 20000000
set_option linter.all false
noncomputable section
namespace Go.Proofs.YtngjhigieajkmaaGreatDoor
def zvu:ME:=⟨0,[],[],[],cT,[],187056⟩
theorem zxk:zAK Tryz.prog glo 4 zvu:=
 (zAM [(48,[mE0]),(54,[mE1]),(56,[mE2]),(176,[zco,zV3]),(112,[zci,zcx,zWG,zdE,zdN,zWO,zw2]),(253,[zcg]),(247,[mE3,zcj]),(489,[zV8]),(186,[zcp]),(488,[zcy,zc5,zWJ,zdO,zdX,zw3]),(117,[zw4,zw5,zuf,zug,zuh,zui,zul,zvH]),(62,[zum]),(59,[zvG]),(60,[zvI])] (zAD (zAC mO0 (zAJ _ _ _)) (zAD (zAC mO1 (zAJ _ _ _)) (zAD (zAC mO2 (zAJ _ _ _)) (zAD (zAC ziz (zAC zf8 (zAJ _ _ _))) (zAD (zAC zit (zAC zi8 (zAC zgL (zAC zjP (zAC zjY (zAC zgT (zAC zzA (zAJ _ _ _)))))))) (zAD (zAC zir (zAJ _ _ _)) (zAD (zAC mO3 (zAC ziu (zAJ _ _ _))) (zAD (zAC zgD (zAJ _ _ _)) (zAD (zAC zi0 (zAJ _ _ _)) (zAD (zAC zi9 (zAC zjG (zAC zgO (zAC zjZ (zAC zji (zAC zzB (zAJ _ _ _))))))) (zAD (zAC zzC (zAC zzD (zAC zw6 (zAC zw7 (zAC zw8 (zAC zw9 (zAC zxC (zAC zxi (zAJ _ _ _))))))))) (zAD (zAC zxD (zAJ _ _ _)) (zAD (zAC zxh (zAJ _ _ _)) (zAD (zAC zxj (zAJ _ _ _)) (zAI _ _)))))))))))))))).entry 100000 4 zvu (by kernel_rfl) (by kernel_rfl)
end Go.Proofs.YtngjhigieajkmaaGreatDoor
end
