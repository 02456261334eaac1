/- Bundle 27: what the law's walk stands on: V3t. -/
import Derived.Test.YtchkfjgcbbbffaaGreatDoorW19
import Derived.Test.YtchkfjgcbbbffaaGreatDoorW22
import Derived.Test.YtchkfjgcbbbffaaGreatDoorW23
import Derived.Test.YtchkfjgcbbbffaaGreatDoorW24
import Derived.Test.YtchkfjgcbbbffaaGreatDoorW26
set_option maxRecDepth 100000
set_option maxHeartbeats 20000000
set_option linter.all false
noncomputable section
namespace Go.Proofs.YtchkfjgcbbbffaaGreatDoor
def zcg:ME:=⟨7,[(none,1),(none,2),(none,3),(none,4),((some 0),0),((some 1),1),((some 1),2)],[cJ 3,.ptr 0 0,.ptr 1 0,.ptr 2 0,.ptr 3 0],[(6,.cells [cI 2]),(5,.cells [cI 8,cI 0,cI 0,cI 2,cI 0,cI 0,cI 7,cI 1,cI 0,cI 0,cI 0,cI 0]),(4,.cells [cF,.lim 1,cI 0,cF,.lim 1,cI 0,cF]),(3,.cells [cI 53]),(2,.cells [cF,.lim 1,cJ 4]),(1,.cells [cI 1,.sl 5 0 2 6 none,.sl 6 0 1 1 none,cI 1,.v (.slice none 0 0)]),(0,.cells [.sl 4 0 1 7 none])],.tup [.sl 15 0 1 7 none,cT],[(15,.cells [cF,.lim 15,cJ 3,cF,.lim 17,cJ 3,cF])],385⟩
theorem zir:zAK Tryz.prog glo 282 zcg:=
 (zAM [(284,[mE9])] (zAD (zAC mO9 (zAJ _ _ _)) (zAI _ _))).entry 100000 282 zcg (by kernel_rfl) (by kernel_rfl)
def zV4:ME:=⟨4,[(none,1),(none,2),(none,5),(none,6)],[.agg [cI 1,.sl 0 0 2 6 none,.sl 1 0 1 1 none,cI 1,.v (.slice none 0 0)],.sl 2 0 1 7 none,.sl 3 0 1 7 none,.agg [cF,.lim 1,cJ 4,cF,.lim 1,cJ 4,cF],cI 4,cI 53],[(3,.cells [cF,.lim 31,cJ 4,cF,.lim 1,cI 0,cF]),(2,.cells [cF,.lim 1,cI 0,cF,.lim 1,cI 0,cF]),(1,.cells [cI 2]),(0,.cells [cI 8,cI 0,cI 0,cI 2,cI 0,cI 0,cI 7,cI 1,cI 0,cI 0,cI 0,cI 0])],.tup [.sl 13207 0 1 7 none,cI 0],[(13207,.cells [cF,.lim 32537631,cJ 24,cF,.lim 545890866325267,cJ 48,cF])],13209⟩
theorem zf9:zAK Tryz.prog glo 341 zV4:=
 (zAM [(277,[mE1]),(476,[zci,zcj]),(383,[zck])] (zAD (zAC mO1 (zAJ _ _ _)) (zAD (zAC zit (zAC ziu (zAJ _ _ _))) (zAD (zAC ziv (zAJ _ _ _)) (zAI _ _))))).entry 100000 341 zV4 (by kernel_rfl) (by kernel_rfl)
def zWA:ME:=⟨3,[(none,1),(none,2),(none,5)],[.agg [cI 1,.sl 0 0 2 6 none,.sl 1 0 1 1 none,cI 1,.v (.slice none 0 0)],.sl 2 0 1 7 none,.agg [cF,.lim 1,cJ 4],cI 53],[(2,.cells [cF,.lim 8734253814644735,cJ 52,cF,.lim 8734253861204273,cJ 52,cF]),(1,.cells [cI 2]),(0,.cells [cI 8,cI 0,cI 0,cI 2,cI 0,cI 0,cI 7,cI 1,cI 0,cI 0,cI 0,cI 0])],.tup [.sl 6091 0 1 7 none,cI 0],[(6091,.cells [cF,.lim 8171303861223423,cJ 52,cF,.lim 9297203814625585,cJ 52,cF])],6463⟩
theorem zgF:zAK Tryz.prog glo 226 zWA:=
 (zAM [(333,[zcp]),(282,[zcq,zcr,zcs,zct,zcu,zcv])] (zAD (zAC zi0 (zAJ _ _ _)) (zAD (zAC zi1 (zAC zi2 (zAC zi3 (zAC zi4 (zAC zi5 (zAC zi6 (zAJ _ _ _))))))) (zAI _ _)))).entry 100000 226 zWA (by kernel_rfl) (by kernel_rfl)
def zWE:ME:=⟨7,[(none,1),(none,2),(none,5),(none,6),(none,7),(none,8),((some 3),0)],[.agg [cI 1,.sl 0 0 2 6 none,.sl 1 0 1 1 none,cI 1,.v (.slice none 0 0)],.agg [.sl 2 0 1 3 none,.sl 3 0 1 1 none,.sl 4 0 1 7 none],.sl 5 0 1 7 none,.agg [cF,.lim 1,cJ 4,cF,.lim 1,cJ 4,cF],cI 4,cI 53],[(6,.cells [cF,.lim 1,cJ 0]),(5,.cells [cF,.lim 529348715878119,cJ 48,cF,.lim 8734253861204273,cJ 52,cF]),(4,.cells [cT,.lim 24410606010369,cJ 71,cF,.lim 24410606010369,cJ 71,cF]),(3,.cells [.sl 6 0 1 3 none]),(2,.cells [cF,.lim 1091781729740563,cJ 49]),(1,.cells [cI 2]),(0,.cells [cI 8,cI 0,cI 0,cI 2,cI 0,cI 0,cI 7,cI 1,cI 0,cI 0,cI 0,cI 0])],.tup [.sl 13490 0 1 7 none,cI 0],[(13490,.cells [cF,.lim 8477364012165533,cJ 52,cF,.lim 8477364049791109,cJ 52,cF])],13492⟩
theorem zgJ:zAK Tryz.prog glo 292 zWE:=
 (zAM [(476,[zc0]),(382,[zWC]),(383,[zc1])] (zAD (zAC zjB (zAJ _ _ _)) (zAD (zAC zgH (zAJ _ _ _)) (zAD (zAC zjC (zAJ _ _ _)) (zAI _ _))))).entry 100000 292 zWE (by kernel_rfl) (by kernel_rfl)
def zWI:ME:=⟨3,[(none,1),(none,2),(none,5)],[.agg [cI 1,.sl 0 0 2 6 none,.sl 1 0 1 1 none,cI 1,.v (.slice none 0 0)],.sl 2 0 1 7 none,.agg [cF,.lim 1,cJ 4],cI 53],[(2,.cells [cF,.lim 8477363990211925,cJ 52,cF,.lim 8477364071744717,cJ 52,cF]),(1,.cells [cI 2]),(0,.cells [cI 8,cI 0,cI 0,cI 2,cI 0,cI 0,cI 7,cI 1,cI 0,cI 0,cI 0,cI 0])],.tup [.sl 5711 0 1 7 none,cI 0],[(5711,.cells [cF,.lim 8195889013501269,cJ 52,cF,.lim 8758839048455373,cJ 52,cF])],6082⟩
theorem zgN:zAK Tryz.prog glo 226 zWI:=
 (zAM [(333,[zc5]),(282,[zc6,zc7,zc8,zc9,zdA])] (zAD (zAC zjG (zAJ _ _ _)) (zAD (zAC zjH (zAC zjI (zAC zjJ (zAC zjK (zAC zjL (zAJ _ _ _)))))) (zAI _ _)))).entry 100000 226 zWI (by kernel_rfl) (by kernel_rfl)
end Go.Proofs.YtchkfjgcbbbffaaGreatDoor
end
