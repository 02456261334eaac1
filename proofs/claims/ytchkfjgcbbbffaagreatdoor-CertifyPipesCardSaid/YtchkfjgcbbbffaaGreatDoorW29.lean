/- Bundle 29: what the law's walk stands on: V10t. -/
import Derived.Test.YtchkfjgcbbbffaaGreatDoorW19
import Derived.Test.YtchkfjgcbbbffaaGreatDoorW24
import Derived.Test.YtchkfjgcbbbffaaGreatDoorW25
set_option maxRecDepth 100000
set_option maxHeartbeats 20000000
set_option linter.all false
noncomputable section
namespace Go.Proofs.YtchkfjgcbbbffaaGreatDoor
def zWL:ME:=⟨3,[(none,1),(none,2),(none,5)],[.agg [cI 1,.sl 0 0 2 6 none,.sl 1 0 1 1 none,cI 1,.v (.slice none 0 0)],.sl 2 0 1 7 none,cI 4,cI 53],[(2,.cells [cF,.lim 8235153585518199,cJ 52,cF,.lim 4117576846566203,cJ 51,cF]),(1,.cells [cI 2]),(0,.cells [cI 8,cI 0,cI 0,cI 2,cI 0,cI 0,cI 7,cI 1,cI 0,cI 0,cI 0,cI 0])],.tup [.sl 17 0 1 1 none,cI 0],[(4671,.cells [cF,.lim 8235153585518199,cJ 52,cF,.lim 4117576846566203,cJ 51,cF,cT,.lim 7529283457764747,cJ 52,cT,.lim 7529283260984481,cJ 52,cF,cF,.lim 6883916108599675,cJ 52,cF,.lim 1720979094617439,cJ 50,cF,cT,.lim 1573466617759419,cJ 50,cT,.lim 6293866142053193,cJ 52,cF,cF,.lim 2877195944078811,cJ 51,cF,.lim 2877196132069945,cJ 51,cF]),(17,.cells [.sl 4671 0 5 7 none])],4672⟩
theorem zgQ:zAK Tryz.prog glo 277 zWL:=
 (zAM [(476,[zdM])] (zAD (zAC zjX (zAJ _ _ _)) (zAI _ _))).entry 100000 277 zWL (by kernel_rfl) (by kernel_rfl)
def zWO:ME:=⟨3,[(none,1),(none,2),(none,5)],[.agg [cI 1,.sl 0 0 2 6 none,.sl 1 0 1 1 none,cI 1,.v (.slice none 0 0)],.sl 2 0 1 7 none,.agg [cF,.lim 1,cJ 4,cF,.lim 1,cJ 4,cF],cI 4,cI 53],[(2,.cells [cF,.lim 3999931738731525,cJ 51,cF,.lim 4117576846566203,cJ 51,cF]),(1,.cells [cI 2]),(0,.cells [cI 8,cI 0,cI 0,cI 2,cI 0,cI 0,cI 7,cI 1,cI 0,cI 0,cI 0,cI 0])],.tup [.sl 7959 0 1 7 none,cI 0],[(7959,.cells [cT,.lim 1315289674557301,cJ 75,cT,.lim 2210632785686811,cJ 76,cF])],7960⟩
theorem zgT:zAK Tryz.prog glo 382 zWO:=
 (zAM [(476,[zdV]),(371,[zdW])] (zAD (zAC zjg (zAJ _ _ _)) (zAD (zAC zjh (zAJ _ _ _)) (zAI _ _)))).entry 100000 382 zWO (by kernel_rfl) (by kernel_rfl)
def zdY:ME:=⟨3,[(none,1),(none,2),(none,5)],[.agg [cI 1,.sl 0 0 2 6 none,.sl 1 0 1 1 none,cI 1,.v (.slice none 0 0)],.sl 2 0 1 7 none,.agg [cF,.lim 1,cJ 4,cF,.lim 1,cJ 4,cF],cI 4,cI 53],[(2,.cells [cF,.lim 3999931738731525,cJ 51,cF,.lim 4117576846566203,cJ 51,cF]),(1,.cells [cI 2]),(0,.cells [cI 8,cI 0,cI 0,cI 2,cI 0,cI 0,cI 7,cI 1,cI 0,cI 0,cI 0,cI 0])],.tup [.sl 5010 0 1 1 none,cI 0],[(5010,.cells [.sl 5008 0 1 7 none]),(5008,.cells [cF,.lim 8506102873071351,cJ 52,cF,.lim 8521660689344233,cJ 52,cF])],5012⟩
theorem zjj:zAK Tryz.prog glo 291 zdY:=
 (zAM [(387,[zdX])] (zAD (zAC zji (zAJ _ _ _)) (zAI _ _))).entry 100000 291 zdY (by kernel_rfl) (by kernel_rfl)
end Go.Proofs.YtchkfjgcbbbffaaGreatDoor
end
