/- Bundle 33: what the law's walk stands on: V12t. -/
import Derived.Test.YtchkfjgcbbbffaaGreatDoorW21
import Derived.Test.YtchkfjgcbbbffaaGreatDoorW22
import Derived.Test.YtchkfjgcbbbffaaGreatDoorW25
import Derived.Test.YtchkfjgcbbbffaaGreatDoorW26
import Derived.Test.YtchkfjgcbbbffaaGreatDoorW27
import Derived.Test.YtchkfjgcbbbffaaGreatDoorW31
import Derived.Test.YtchkfjgcbbbffaaGreatDoorW32
set_option maxRecDepth 100000
set_option maxHeartbeats 20000000
set_option linter.all false
noncomputable section
namespace Go.Proofs.YtchkfjgcbbbffaaGreatDoor
def zf7:ME:=⟨0,[],[],[],cT,[],296215⟩
theorem zgV (hN:zAK Tryz.prog glo 320 zFy):zAK Tryz.prog glo 7 zf7:=
 (zAM [(134,[zRa]),(226,[zch]),(333,[zV3,mE8]),(277,[mE1]),(284,[mE9]),(341,[zV4]),(291,[zV5]),(292,[zV6]),(294,[zcm]),(230,[zcn,zc3]),(152,[zcw,zdB,zdT]),(228,[zc2]),(154,[zdL,zdd]),(84,[zde])] (zAD (zAC (zJw hN) (zAJ _ _ _)) (zAD (zAC zis (zAJ _ _ _)) (zAD (zAC zf8 (zAC mO8 (zAJ _ _ _))) (zAD (zAC mO1 (zAJ _ _ _)) (zAD (zAC mO9 (zAJ _ _ _)) (zAD (zAC zf9 (zAJ _ _ _)) (zAD (zAC zgA (zAJ _ _ _)) (zAD (zAC zgB (zAJ _ _ _)) (zAD (zAC zix (zAJ _ _ _)) (zAD (zAC ziy (zAC zjE (zAJ _ _ _))) (zAD (zAC zi7 (zAC zjM (zAC zje (zAJ _ _ _)))) (zAD (zAC zjD (zAJ _ _ _)) (zAD (zAC zjW (zAC zjo (zAJ _ _ _))) (zAD (zAC zjp (zAJ _ _ _)) (zAI _ _)))))))))))))))).entry 100000 7 zf7 (by kernel_rfl) (by kernel_rfl)
#print axioms zgV
end Go.Proofs.YtchkfjgcbbbffaaGreatDoor
end
