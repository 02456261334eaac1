/- Bundle 26: what the law's walk stands on: V2t. -/
import Derived.Test.YtchkfjgcbbbffaaGreatDoorW19
import Derived.Test.YtchkfjgcbbbffaaGreatDoorW22
import Derived.Test.YtchkfjgcbbbffaaGreatDoorW23
import Derived.Test.YtchkfjgcbbbffaaGreatDoorW24
import Derived.Test.YtchkfjgcbbbffaaGreatDoorW25
set_option maxRecDepth 100000
set_option maxHeartbeats 20000000
set_option linter.all false
noncomputable section
namespace Go.Proofs.YtchkfjgcbbbffaaGreatDoor
def mE1:ME:=⟨3,[(none,1),(none,2),(none,5)],[.agg [cI 1,.sl 0 0 2 6 none,.sl 1 0 1 1 none,cI 1,.v (.slice none 0 0)],.sl 2 0 1 7 none,cI 4,cI 53],[(2,.cells [cF,.lim 1,cI 0,cF,.lim 1,cI 0,cF]),(1,.cells [cI 2]),(0,.cells [cI 8,cI 0,cI 0,cI 2,cI 0,cI 0,cI 7,cI 1,cI 0,cI 0,cI 0,cI 0])],.tup [.sl 17 0 1 1 none,cI 0],[(4585,.cells [cF,.lim 1,cI 0,cF,.lim 1,cI 0,cF,cT,.lim 1,cI 0,cT,.lim 1,cI 0,cF,cF,.lim 1,cI 0,cF,.lim 1,cI 0,cF,cT,.lim 1,cI 0,cT,.lim 1,cI 0,cF,cF,.lim 1,cI 0,cF,.lim 1,cI 0,cF]),(17,.cells [.sl 4585 0 5 7 none])],4586⟩
theorem mO1:zAK Tryz.prog glo 277 mE1:=
 (zAM [(476,[mE0])] (zAD (zAC mO0 (zAJ _ _ _)) (zAI _ _))).entry 100000 277 mE1 (by kernel_rfl) (by kernel_rfl)
def mE9:ME:=⟨4,[(none,1),(none,2),(none,5),(none,9)],[.agg [cI 1,.sl 0 0 2 6 none,.sl 1 0 1 1 none,cI 1,.v (.slice none 0 0)],.sl 2 0 1 7 none,.agg [cF,.lim 1,cJ 4],.sl 3 0 1 7 none,cI 53],[(3,.cells [cF,.lim 15,cJ 3,cF,.lim 17,cJ 3,cF]),(2,.cells [cF,.lim 1,cI 0,cF,.lim 1,cI 0,cF]),(1,.cells [cI 2]),(0,.cells [cI 8,cI 0,cI 0,cI 2,cI 0,cI 0,cI 7,cI 1,cI 0,cI 0,cI 0,cI 0])],cT,[],373⟩
theorem mO9:zAK Tryz.prog glo 284 mE9:=
 (zAM [(333,[mE8])] (zAD (zAC mO8 (zAJ _ _ _)) (zAI _ _))).entry 100000 284 mE9 (by kernel_rfl) (by kernel_rfl)
def zV5:ME:=⟨3,[(none,1),(none,2),(none,5)],[.agg [cI 1,.sl 0 0 2 6 none,.sl 1 0 1 1 none,cI 1,.v (.slice none 0 0)],.sl 2 0 1 7 none,.agg [cF,.lim 1,cJ 4,cF,.lim 1,cJ 4,cF],cI 4,cI 53],[(2,.cells [cF,.lim 31,cJ 4,cF,.lim 1,cI 0,cF]),(1,.cells [cI 2]),(0,.cells [cI 8,cI 0,cI 0,cI 2,cI 0,cI 0,cI 7,cI 1,cI 0,cI 0,cI 0,cI 0])],.tup [.sl 4983 0 1 1 none,cI 0],[(4983,.cells [.sl 4981 0 1 7 none]),(4981,.cells [cF,.lim 8460397623049307,cJ 52,cF,.lim 529944141604581,cJ 48,cF])],4985⟩
theorem zgA:zAK Tryz.prog glo 291 zV5:=
 (zAM [(387,[zcl])] (zAD (zAC ziw (zAJ _ _ _)) (zAI _ _))).entry 100000 291 zV5 (by kernel_rfl) (by kernel_rfl)
def zcm:ME:=⟨13,[(none,0),(none,1),(none,2),(none,3),(none,4),(none,5),(none,6),(none,7),(none,8),((some 1),0),((some 3),0),((some 6),0),((some 8),0)],[.agg [.sl 0 0 1 3 none,.sl 1 0 1 1 (some 1),.sl 2 0 1 7 none],.sl 3 0 1 1 none,.sl 4 0 1 7 none,.agg [.sl 5 0 1 3 none,.sl 6 0 1 1 none,.sl 7 0 1 7 (some 1)],.sl 8 0 1 1 none,cI 53],[(12,.cells [cF,.lim 1,cI 1]),(11,.cells [cF,.lim 1,cJ 0]),(10,.cells [cF,.lim 8460397623049307,cJ 52,cF,.lim 529944141604581,cJ 48,cF]),(9,.cells [cF,.lim 1,cI 0]),(8,.cells [.sl 12 0 1 3 none]),(7,.cells [cF,.v (.slice none 0 0),cI 0,cF,.v (.slice none 0 0),cI 0,cF]),(6,.cells [.sl 11 0 1 3 none]),(5,.cells [cF,.lim 1091781729740563,cJ 49]),(4,.cells [cF,.lim 32537631,cJ 24,cF,.lim 545890866325267,cJ 48,cF]),(3,.cells [.sl 10 0 1 7 none]),(2,.cells [cF,.v (.slice none 0 0),cI 0,cF,.v (.slice none 0 0),cI 0,cF]),(1,.cells [.sl 9 0 1 3 (some 1)]),(0,.cells [cF,.lim 1,cI 0])],.tup [.sl 1296 0 1 7 none,cI 0],[(1296,.cells [cT,.lim 2909971,cJ 48,cF,.lim 2909971,cJ 48,cF])],1298⟩
theorem zix:zAK Tryz.prog glo 294 zcm:=
 (zAM [(351,[zV7])] (zAD (zAC zgC (zAJ _ _ _)) (zAI _ _))).entry 100000 294 zcm (by kernel_rfl) (by kernel_rfl)
def zV8:ME:=⟨3,[(none,1),(none,2),(none,5)],[.agg [cI 1,.sl 0 0 2 6 none,.sl 1 0 1 1 none,cI 1,.v (.slice none 0 0)],.sl 2 0 1 7 none,cI 4,cI 53],[(2,.cells [cF,.lim 8734253814644735,cJ 52,cF,.lim 8734253861204273,cJ 52,cF]),(1,.cells [cI 2]),(0,.cells [cI 8,cI 0,cI 0,cI 2,cI 0,cI 0,cI 7,cI 1,cI 0,cI 0,cI 0,cI 0])],.tup [.sl 17 0 1 1 none,cI 0],[(4675,.cells [cF,.lim 8734253814644735,cJ 52,cF,.lim 8734253861204273,cJ 52,cF,cT,.lim 8469579539034573,cJ 52,cT,.lim 4234789724368643,cJ 51,cF,cF,.lim 8212925518399393,cJ 52,cF,.lim 4106462824870451,cJ 51,cF,cT,.lim 7964049149936991,cJ 52,cT,.lim 995506122515213,cJ 49,cF,cF,.lim 7722714155349919,cJ 52,cF,.lim 7722714361186631,cJ 52,cF]),(17,.cells [.sl 4675 0 5 7 none])],4676⟩
theorem zgD:zAK Tryz.prog glo 277 zV8:=
 (zAM [(476,[zco])] (zAD (zAC ziz (zAJ _ _ _)) (zAI _ _))).entry 100000 277 zV8 (by kernel_rfl) (by kernel_rfl)
def zcv:ME:=⟨7,[(none,1),(none,2),(none,3),(none,4),((some 0),0),((some 1),1),((some 1),2)],[cJ 3,.ptr 0 0,.ptr 1 0,.ptr 2 0,.ptr 3 0],[(6,.cells [cI 2]),(5,.cells [cI 8,cI 0,cI 0,cI 2,cI 0,cI 0,cI 7,cI 1,cI 0,cI 0,cI 0,cI 0]),(4,.cells [cF,.lim 8734253814644735,cJ 52,cF,.lim 8734253861204273,cJ 52,cF]),(3,.cells [cI 53]),(2,.cells [cF,.lim 1,cJ 4]),(1,.cells [cI 1,.sl 5 0 2 6 none,.sl 6 0 1 1 none,cI 1,.v (.slice none 0 0)]),(0,.cells [.sl 4 0 1 7 none])],.tup [.sl 15 0 1 7 none,cT],[(15,.cells [cF,.lim 8171303861223423,cJ 52,cF,.lim 9297203814625585,cJ 52,cF])],387⟩
theorem zi6:zAK Tryz.prog glo 282 zcv:=
 (zAM [(333,[zV9])] (zAD (zAC zgE (zAJ _ _ _)) (zAI _ _))).entry 100000 282 zcv (by kernel_rfl) (by kernel_rfl)
def zWC:ME:=⟨3,[(none,1),(none,2),(none,5)],[.agg [cI 1,.sl 0 0 2 6 none,.sl 1 0 1 1 none,cI 1,.v (.slice none 0 0)],.sl 2 0 1 7 none,.agg [cF,.lim 1,cJ 4,cF,.lim 1,cJ 4,cF],cI 4,cI 53],[(2,.cells [cF,.lim 529348715878119,cJ 48,cF,.lim 8734253861204273,cJ 52,cF]),(1,.cells [cI 2]),(0,.cells [cI 8,cI 0,cI 0,cI 2,cI 0,cI 0,cI 7,cI 1,cI 0,cI 0,cI 0,cI 0])],.tup [.sl 7969 0 1 7 none,cI 0],[(7969,.cells [cT,.lim 1872173186705851,cJ 75,cT,.lim 778273496760099,cJ 74,cF])],7970⟩
theorem zgH:zAK Tryz.prog glo 382 zWC:=
 (zAM [(476,[zcx]),(371,[zcy])] (zAD (zAC zi8 (zAJ _ _ _)) (zAD (zAC zi9 (zAJ _ _ _)) (zAI _ _)))).entry 100000 382 zWC (by kernel_rfl) (by kernel_rfl)
def zdA:ME:=⟨7,[(none,1),(none,2),(none,3),(none,4),((some 0),0),((some 1),1),((some 1),2)],[cJ 4,.ptr 0 0,.ptr 1 0,.ptr 2 0,.ptr 3 0],[(6,.cells [cI 2]),(5,.cells [cI 8,cI 0,cI 0,cI 2,cI 0,cI 0,cI 7,cI 1,cI 0,cI 0,cI 0,cI 0]),(4,.cells [cF,.lim 8477363990211925,cJ 52,cF,.lim 8477364071744717,cJ 52,cF]),(3,.cells [cI 53]),(2,.cells [cF,.lim 1,cJ 4]),(1,.cells [cI 1,.sl 5 0 2 6 none,.sl 6 0 1 1 none,cI 1,.v (.slice none 0 0)]),(0,.cells [.sl 4 0 1 7 none])],.tup [.sl 15 0 1 7 none,cT],[(15,.cells [cF,.lim 8195889013501269,cJ 52,cF,.lim 8758839048455373,cJ 52,cF])],386⟩
theorem zjL:zAK Tryz.prog glo 282 zdA:=
 (zAM [(333,[zWH])] (zAD (zAC zgM (zAJ _ _ _)) (zAI _ _))).entry 100000 282 zdA (by kernel_rfl) (by kernel_rfl)
def zdK:ME:=⟨13,[(none,0),(none,1),(none,2),(none,3),(none,4),(none,5),(none,6),(none,7),(none,8),((some 1),0),((some 3),0),((some 6),0),((some 8),0)],[.agg [.sl 0 0 1 3 none,.sl 1 0 1 1 none,.sl 2 0 1 7 none],.sl 3 0 1 1 none,.sl 4 0 1 7 none,.agg [.sl 5 0 1 3 none,.sl 6 0 1 1 none,.sl 7 0 1 7 none],.sl 8 0 1 1 none,cI 53],[(12,.cells [cF,.lim 7856122212624683,cJ 51]),(11,.cells [cF,.lim 5163465907151523,cJ 52]),(10,.cells [cF,.lim 8491742578011735,cJ 52,cF,.lim 8508255951173709,cJ 52,cF]),(9,.cells [cF,.lim 735879405748763,cJ 49]),(8,.cells [.sl 12 0 1 3 none]),(7,.cells [cT,.lim 6298946933155351,cJ 78,cF,.lim 6298947050220695,cJ 78,cF]),(6,.cells [.sl 11 0 1 3 none]),(5,.cells [cF,.lim 4117576819662651,cJ 51]),(4,.cells [cF,.lim 2058788406006597,cJ 50,cF,.lim 8235153654624217,cJ 52,cF]),(3,.cells [.sl 10 0 1 7 none]),(2,.cells [cT,.lim 130805304503083,cJ 73,cF,.lim 130805304503083,cJ 73,cF]),(1,.cells [.sl 9 0 1 3 none]),(0,.cells [cF,.lim 8477364030978321,cJ 52])],.tup [.sl 1377 0 1 7 none,cI 0],[(1377,.cells [cT,.lim 6298946933155095,cJ 78,cF,.lim 6298947050220439,cJ 78,cF])],1379⟩
theorem zjV:zAK Tryz.prog glo 294 zdK:=
 (zAM [(351,[zWK])] (zAD (zAC zgP (zAJ _ _ _)) (zAI _ _))).entry 100000 294 zdK (by kernel_rfl) (by kernel_rfl)
def zdS:ME:=⟨7,[(none,1),(none,2),(none,3),(none,4),((some 0),0),((some 1),1),((some 1),2)],[cJ 4,.ptr 0 0,.ptr 1 0,.ptr 2 0,.ptr 3 0],[(6,.cells [cI 2]),(5,.cells [cI 8,cI 0,cI 0,cI 2,cI 0,cI 0,cI 7,cI 1,cI 0,cI 0,cI 0,cI 0]),(4,.cells [cF,.lim 8235153585518199,cJ 52,cF,.lim 4117576846566203,cJ 51,cF]),(3,.cells [cI 53]),(2,.cells [cF,.lim 1,cJ 4]),(1,.cells [cI 1,.sl 5 0 2 6 none,.sl 6 0 1 1 none,cI 1,.v (.slice none 0 0)]),(0,.cells [.sl 4 0 1 7 none])],.tup [.sl 15 0 1 7 none,cT],[(15,.cells [cF,.lim 7953678608807543,cJ 52,cF,.lim 4258314334921531,cJ 51,cF])],386⟩
theorem zjd:zAK Tryz.prog glo 282 zdS:=
 (zAM [(333,[zWM])] (zAD (zAC zgR (zAJ _ _ _)) (zAI _ _))).entry 100000 282 zdS (by kernel_rfl) (by kernel_rfl)
end Go.Proofs.YtchkfjgcbbbffaaGreatDoor
end
