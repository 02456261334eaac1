/- Bundle 30: what the law's walk stands on: V9t. -/
import Derived.Test.YtchkfjgcbbbffaaGreatDoorW19
import Derived.Test.YtchkfjgcbbbffaaGreatDoorW24
import Derived.Test.YtchkfjgcbbbffaaGreatDoorW25
import Derived.Test.YtchkfjgcbbbffaaGreatDoorW26
import Derived.Test.YtchkfjgcbbbffaaGreatDoorW28
import Derived.Test.YtchkfjgcbbbffaaGreatDoorW29
set_option maxRecDepth 100000
set_option maxHeartbeats 20000000
set_option linter.all false
noncomputable section
namespace Go.Proofs.YtchkfjgcbbbffaaGreatDoor
def zdJ:ME:=⟨7,[(none,1),(none,2),(none,5),(none,6),(none,7),(none,8),((some 3),0)],[.agg [cI 1,.sl 0 0 2 6 none,.sl 1 0 1 1 none,cI 1,.v (.slice none 0 0)],.agg [.sl 2 0 1 3 none,.sl 3 0 1 1 none,.sl 4 0 1 7 none],.sl 5 0 1 7 none,.agg [cF,.lim 1,cJ 4,cF,.lim 1,cJ 4,cF],cI 4,cI 53],[(6,.cells [cF,.lim 735879405748763,cJ 49]),(5,.cells [cF,.lim 257125929713399,cJ 47,cF,.lim 8477364071744717,cJ 52,cF]),(4,.cells [cT,.lim 130805304503083,cJ 73,cF,.lim 130805304503083,cJ 73,cF]),(3,.cells [.sl 6 0 1 3 none]),(2,.cells [cF,.lim 8477364030978321,cJ 52]),(1,.cells [cI 2]),(0,.cells [cI 8,cI 0,cI 0,cI 2,cI 0,cI 0,cI 7,cI 1,cI 0,cI 0,cI 0,cI 0])],.tup [.sl 13496 0 1 7 none,cI 0],[(13496,.cells [cF,.lim 2058788406006597,cJ 50,cF,.lim 8235153654624217,cJ 52,cF])],13498⟩
theorem zjU:zAK Tryz.prog glo 292 zdJ:=
 (zAM [(476,[zdH]),(382,[zWJ]),(383,[zdI])] (zAD (zAC zjS (zAJ _ _ _)) (zAD (zAC zgO (zAJ _ _ _)) (zAD (zAC zjT (zAJ _ _ _)) (zAI _ _))))).entry 100000 292 zdJ (by kernel_rfl) (by kernel_rfl)
def zWN:ME:=⟨3,[(none,1),(none,2),(none,5)],[.agg [cI 1,.sl 0 0 2 6 none,.sl 1 0 1 1 none,cI 1,.v (.slice none 0 0)],.sl 2 0 1 7 none,.agg [cF,.lim 1,cJ 4],cI 53],[(2,.cells [cF,.lim 8235153585518199,cJ 52,cF,.lim 4117576846566203,cJ 51,cF]),(1,.cells [cI 2]),(0,.cells [cI 8,cI 0,cI 0,cI 2,cI 0,cI 0,cI 7,cI 1,cI 0,cI 0,cI 0,cI 0])],.tup [.sl 5711 0 1 7 none,cI 0],[(5711,.cells [cF,.lim 7953678608807543,cJ 52,cF,.lim 4258314334921531,cJ 51,cF])],6082⟩
theorem zgS:zAK Tryz.prog glo 226 zWN:=
 (zAM [(333,[zdN]),(282,[zdO,zdP,zdQ,zdR,zdS])] (zAD (zAC zjY (zAJ _ _ _)) (zAD (zAC zjZ (zAC zja (zAC zjb (zAC zjc (zAC zjd (zAJ _ _ _)))))) (zAI _ _)))).entry 100000 226 zWN (by kernel_rfl) (by kernel_rfl)
def zdb:ME:=⟨7,[(none,1),(none,2),(none,5),(none,6),(none,7),(none,8),((some 3),0)],[.agg [cI 1,.sl 0 0 2 6 none,.sl 1 0 1 1 none,cI 1,.v (.slice none 0 0)],.agg [.sl 2 0 1 3 none,.sl 3 0 1 1 none,.sl 4 0 1 7 none],.sl 5 0 1 7 none,.agg [cF,.lim 1,cJ 4,cF,.lim 1,cJ 4,cF],cI 4,cI 53],[(6,.cells [cF,.lim 5163465907151523,cJ 52]),(5,.cells [cF,.lim 3999931738731525,cJ 51,cF,.lim 4117576846566203,cJ 51,cF]),(4,.cells [cT,.lim 6298946933155351,cJ 78,cF,.lim 6298947050220695,cJ 78,cF]),(3,.cells [.sl 6 0 1 3 none]),(2,.cells [cF,.lim 4117576819662651,cJ 51]),(1,.cells [cI 2]),(0,.cells [cI 8,cI 0,cI 0,cI 2,cI 0,cI 0,cI 7,cI 1,cI 0,cI 0,cI 0,cI 0])],.tup [.sl 13486 0 1 7 none,cI 0],[(13486,.cells [cF,.lim 8006399366265885,cJ 52,cF,.lim 8006399391296653,cJ 52,cF])],13488⟩
theorem zjm:zAK Tryz.prog glo 292 zdb:=
 (zAM [(476,[zdZ]),(382,[zWO]),(383,[zda])] (zAD (zAC zjk (zAJ _ _ _)) (zAD (zAC zgT (zAJ _ _ _)) (zAD (zAC zjl (zAJ _ _ _)) (zAI _ _))))).entry 100000 292 zdb (by kernel_rfl) (by kernel_rfl)
end Go.Proofs.YtchkfjgcbbbffaaGreatDoor
end
