/- Bundle 28: what the law's walk stands on: V7t. -/
import Derived.Test.YtchkfjgcbbbffaaGreatDoorW19
import Derived.Test.YtchkfjgcbbbffaaGreatDoorW23
import Derived.Test.YtchkfjgcbbbffaaGreatDoorW24
import Derived.Test.YtchkfjgcbbbffaaGreatDoorW25
set_option maxRecDepth 100000
set_option maxHeartbeats 20000000
set_option linter.all false
noncomputable section
namespace Go.Proofs.YtchkfjgcbbbffaaGreatDoor
def zWD:ME:=⟨3,[(none,1),(none,2),(none,5)],[.agg [cI 1,.sl 0 0 2 6 none,.sl 1 0 1 1 none,cI 1,.v (.slice none 0 0)],.sl 2 0 1 7 none,.agg [cF,.lim 1,cJ 4,cF,.lim 1,cJ 4,cF],cI 4,cI 53],[(2,.cells [cF,.lim 529348715878119,cJ 48,cF,.lim 8734253861204273,cJ 52,cF]),(1,.cells [cI 2]),(0,.cells [cI 8,cI 0,cI 0,cI 2,cI 0,cI 0,cI 7,cI 1,cI 0,cI 0,cI 0,cI 0])],.tup [.sl 5009 0 1 1 none,cI 0],[(5009,.cells [.sl 5007 0 1 7 none]),(5007,.cells [cF,.lim 1059566675224559,cJ 49,cF,.lim 8494093096128261,cJ 52,cF])],5011⟩
theorem zgI:zAK Tryz.prog glo 291 zWD:=
 (zAM [(387,[zcz])] (zAD (zAC zjA (zAJ _ _ _)) (zAI _ _))).entry 100000 291 zWD (by kernel_rfl) (by kernel_rfl)
def zWG:ME:=⟨3,[(none,1),(none,2),(none,5)],[.agg [cI 1,.sl 0 0 2 6 none,.sl 1 0 1 1 none,cI 1,.v (.slice none 0 0)],.sl 2 0 1 7 none,cI 4,cI 53],[(2,.cells [cF,.lim 8477363990211925,cJ 52,cF,.lim 8477364071744717,cJ 52,cF]),(1,.cells [cI 2]),(0,.cells [cI 8,cI 0,cI 0,cI 2,cI 0,cI 0,cI 7,cI 1,cI 0,cI 0,cI 0,cI 0])],.tup [.sl 17 0 1 1 none,cI 0],[(4679,.cells [cF,.lim 8477363990211925,cJ 52,cF,.lim 8477364071744717,cJ 52,cF,cT,.lim 1994673915065253,cJ 50,cT,.lim 7978695506787519,cJ 52,cF,cF,.lim 7509360464353487,cJ 52,cF,.lim 1877340170255487,cJ 50,cF,cT,.lim 3533816819116127,cJ 51,cT,.lim 7067633366334573,cJ 52,cF,cF,.lim 6651890215956801,cJ 52,cF,.lim 3325945267918213,cJ 51,cF]),(17,.cells [.sl 4679 0 5 7 none])],4680⟩
theorem zgL:zAK Tryz.prog glo 277 zWG:=
 (zAM [(476,[zc4])] (zAD (zAC zjF (zAJ _ _ _)) (zAI _ _))).entry 100000 277 zWG (by kernel_rfl) (by kernel_rfl)
def zWJ:ME:=⟨3,[(none,1),(none,2),(none,5)],[.agg [cI 1,.sl 0 0 2 6 none,.sl 1 0 1 1 none,cI 1,.v (.slice none 0 0)],.sl 2 0 1 7 none,.agg [cF,.lim 1,cJ 4,cF,.lim 1,cJ 4,cF],cI 4,cI 53],[(2,.cells [cF,.lim 257125929713399,cJ 47,cF,.lim 8477364071744717,cJ 52,cF]),(1,.cells [cI 2]),(0,.cells [cI 8,cI 0,cI 0,cI 2,cI 0,cI 0,cI 7,cI 1,cI 0,cI 0,cI 0,cI 0])],.tup [.sl 7970 0 1 7 none,cI 0],[(7970,.cells [cT,.lim 6260602906946571,cJ 77,cT,.lim 654238778128227,cJ 74,cF])],7971⟩
theorem zgO:zAK Tryz.prog glo 382 zWJ:=
 (zAM [(476,[zdD]),(371,[zdE])] (zAD (zAC zjO (zAJ _ _ _)) (zAD (zAC zjP (zAJ _ _ _)) (zAI _ _)))).entry 100000 382 zWJ (by kernel_rfl) (by kernel_rfl)
def zdG:ME:=⟨3,[(none,1),(none,2),(none,5)],[.agg [cI 1,.sl 0 0 2 6 none,.sl 1 0 1 1 none,cI 1,.v (.slice none 0 0)],.sl 2 0 1 7 none,.agg [cF,.lim 1,cJ 4,cF,.lim 1,cJ 4,cF],cI 4,cI 53],[(2,.cells [cF,.lim 257125929713399,cJ 47,cF,.lim 8477364071744717,cJ 52,cF]),(1,.cells [cI 2]),(0,.cells [cI 8,cI 0,cI 0,cI 2,cI 0,cI 0,cI 7,cI 1,cI 0,cI 0,cI 0,cI 0])],.tup [.sl 5009 0 1 1 none,cI 0],[(5009,.cells [.sl 5007 0 1 7 none]),(5007,.cells [cF,.lim 8491742578011735,cJ 52,cF,.lim 8508255951173709,cJ 52,cF])],5011⟩
theorem zjR:zAK Tryz.prog glo 291 zdG:=
 (zAM [(387,[zdF])] (zAD (zAC zjQ (zAJ _ _ _)) (zAI _ _))).entry 100000 291 zdG (by kernel_rfl) (by kernel_rfl)
def zdc:ME:=⟨13,[(none,0),(none,1),(none,2),(none,3),(none,4),(none,5),(none,6),(none,7),(none,8),((some 1),0),((some 3),0),((some 6),0),((some 8),0)],[.agg [.sl 0 0 1 3 none,.sl 1 0 1 1 none,.sl 2 0 1 7 none],.sl 3 0 1 1 none,.sl 4 0 1 7 none,.agg [.sl 5 0 1 3 none,.sl 6 0 1 1 none,.sl 7 0 1 7 none],.sl 8 0 1 1 none,cI 53],[(12,.cells [cF,.lim 5942404438901075,cJ 51]),(11,.cells [cF,.lim 6826330927890355,cJ 52]),(10,.cells [cF,.lim 8506102873071351,cJ 52,cF,.lim 8521660689344233,cJ 52,cF]),(9,.cells [cF,.lim 5163465907151523,cJ 52]),(8,.cells [.sl 12 0 1 3 none]),(7,.cells [cT,.lim 5615935718997783,cJ 78,cF,.lim 5615935802773237,cJ 78,cF]),(6,.cells [.sl 11 0 1 3 none]),(5,.cells [cF,.lim 8006399378781269,cJ 52]),(4,.cells [cF,.lim 8006399366265885,cJ 52,cF,.lim 8006399391296653,cJ 52,cF]),(3,.cells [.sl 10 0 1 7 none]),(2,.cells [cT,.lim 6298946933155351,cJ 78,cF,.lim 6298947050220695,cJ 78,cF]),(1,.cells [.sl 9 0 1 3 none]),(0,.cells [cF,.lim 4117576819662651,cJ 51])],.tup [.sl 1378 0 1 7 none,cI 0],[(1378,.cells [cT,.lim 5615935718997527,cJ 78,cF,.lim 5615935802772981,cJ 78,cF])],1380⟩
theorem zjn:zAK Tryz.prog glo 294 zdc:=
 (zAM [(351,[zWP])] (zAD (zAC zgU (zAJ _ _ _)) (zAI _ _))).entry 100000 294 zdc (by kernel_rfl) (by kernel_rfl)
end Go.Proofs.YtchkfjgcbbbffaaGreatDoor
end
