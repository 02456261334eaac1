/- Bundle 32: what the law's walk stands on: V5t. -/
import Derived.Test.YtchkfjgcbbbffaaGreatDoorW19
import Derived.Test.YtchkfjgcbbbffaaGreatDoorW22
import Derived.Test.YtchkfjgcbbbffaaGreatDoorW26
import Derived.Test.YtchkfjgcbbbffaaGreatDoorW31
set_option maxRecDepth 100000
set_option maxHeartbeats 20000000
set_option linter.all false
noncomputable section
namespace Go.Proofs.YtchkfjgcbbbffaaGreatDoor
def zcn:ME:=⟨13,[(none,1),(none,2),(none,5),(none,6),(none,7),(none,11),(none,12),(none,13),(none,14),(none,15),((some 3),0),((some 7),0),((some 9),0)],[.agg [cI 1,.sl 0 0 2 6 none,.sl 1 0 1 1 none,cI 1,.v (.slice none 0 0)],.agg [.sl 2 0 1 3 none,.sl 3 0 1 1 (some 1),.sl 4 0 1 7 none],.agg [cF,.lim 1,cJ 4,.sl 5 0 1 7 none,.sl 6 0 1 3 none,.sl 7 0 1 1 none,.sl 8 0 1 7 none,.sl 9 0 1 1 none],cI 4,cI 53],[(12,.cells [cF,.lim 1,cI 1]),(11,.cells [cF,.lim 1,cJ 0]),(10,.cells [cF,.lim 1,cI 0]),(9,.cells [.sl 12 0 1 3 none]),(8,.cells [cT,.lim 24410606010369,cJ 71,cF,.lim 24410606010369,cJ 71,cF]),(7,.cells [.sl 11 0 1 3 none]),(6,.cells [cF,.lim 1091781729740563,cJ 49]),(5,.cells [cF,.lim 31,cJ 4,cF,.lim 1,cI 0,cF]),(4,.cells [cF,.v (.slice none 0 0),cI 0,cF,.v (.slice none 0 0),cI 0,cF]),(3,.cells [.sl 10 0 1 3 (some 1)]),(2,.cells [cF,.lim 1,cI 0]),(1,.cells [cI 2]),(0,.cells [cI 8,cI 0,cI 0,cI 2,cI 0,cI 0,cI 7,cI 1,cI 0,cI 0,cI 0,cI 0])],cT,[],20083⟩
theorem ziy:zAK Tryz.prog glo 230 zcn:=
 (zAM [(333,[zV3]),(291,[zV5]),(292,[zV6]),(351,[zV7])] (zAD (zAC zf8 (zAJ _ _ _)) (zAD (zAC zgA (zAJ _ _ _)) (zAD (zAC zgB (zAJ _ _ _)) (zAD (zAC zgC (zAJ _ _ _)) (zAI _ _)))))).entry 100000 230 zcn (by kernel_rfl) (by kernel_rfl)
end Go.Proofs.YtchkfjgcbbbffaaGreatDoor
end
