/- Bundle 22: what the law's walk stands on: V1t. -/
import Derived.Test.YtchkfjgcbbbffaaGreatDoorW19
set_option maxRecDepth 100000
set_option maxHeartbeats 20000000
set_option linter.all false
noncomputable section
namespace Go.Proofs.YtchkfjgcbbbffaaGreatDoor
def mE0:ME:=⟨2,[(none,0),(none,1)],[.sl 0 0 4 7 none,.sl 1 0 4 7 none,cI 53],[(1,.cells [cF,.lim 1,cI 0,cF,.lim 1,cI 0,cF,cT,.lim 1,cI 0,cT,.lim 1,cI 0,cF,cF,.lim 1,cI 0,cF,.lim 1,cI 0,cF,cT,.lim 1,cI 0,cT,.lim 1,cI 0,cF]),(0,.cells [cF,.lim 1,cI 0,cF,.lim 1,cI 0,cF,cT,.lim 1,cI 0,cT,.lim 1,cI 0,cF,cF,.lim 1,cI 0,cF,.lim 1,cI 0,cF,cT,.lim 1,cI 0,cT,.lim 1,cI 0,cF])],.sl 6 0 4 7 (some 4),[(6,.cells [cF,.lim 1,cI 0,cF,.lim 1,cI 0,cF,cT,.lim 1,cI 1,cT,.lim 1,cI 1,cF,cF,.lim 3,cI 0,cF,.lim 3,cI 0,cF,cT,.lim 1,cI 2,cT,.lim 1,cI 2,cF])],1697⟩
theorem mO0:zAK Tryz.prog glo 476 mE0:=
 (zAM [] (zAI _ _)).entry 100000 476 mE0 (by kernel_rfl) (by kernel_rfl)
def mE2:ME:=⟨4,[(none,1),(none,2),(none,5),(none,9)],[.agg [cI 1,.sl 0 0 2 6 none,.sl 1 0 1 1 none,cI 1,.v (.slice none 0 0)],.sl 2 0 1 7 none,.agg [cF,.lim 1,cJ 4],.sl 3 0 1 7 none,cI 53],[(3,.cells [cF,.lim 1023,cJ 9,cF,.lim 1025,cJ 9,cF]),(2,.cells [cF,.lim 1,cI 0,cF,.lim 1,cI 0,cF]),(1,.cells [cI 2]),(0,.cells [cI 8,cI 0,cI 0,cI 2,cI 0,cI 0,cI 7,cI 1,cI 0,cI 0,cI 0,cI 0])],.sl 350 0 1 7 none,[(350,.cells [cF,.lim 32503807,cJ 24,cF,.lim 1,cI 0,cF])],351⟩
theorem mO2:zAK Tryz.prog glo 333 mE2:=
 (zAM [] (zAI _ _)).entry 100000 333 mE2 (by kernel_rfl) (by kernel_rfl)
def mE3:ME:=⟨4,[(none,1),(none,2),(none,5),(none,9)],[.agg [cI 1,.sl 0 0 2 6 none,.sl 1 0 1 1 none,cI 1,.v (.slice none 0 0)],.sl 2 0 1 7 none,.agg [cF,.lim 1,cJ 4],.sl 3 0 1 7 none,cI 53],[(3,.cells [cF,.lim 511,cJ 8,cF,.lim 513,cJ 8,cF]),(2,.cells [cF,.lim 1,cI 0,cF,.lim 1,cI 0,cF]),(1,.cells [cI 2]),(0,.cells [cI 8,cI 0,cI 0,cI 2,cI 0,cI 0,cI 7,cI 1,cI 0,cI 0,cI 0,cI 0])],.sl 350 0 1 7 none,[(350,.cells [cF,.lim 8125439,cJ 22,cF,.lim 1,cI 0,cF])],351⟩
theorem mO3:zAK Tryz.prog glo 333 mE3:=
 (zAM [] (zAI _ _)).entry 100000 333 mE3 (by kernel_rfl) (by kernel_rfl)
def mE4:ME:=⟨7,[(none,1),(none,2),(none,3),(none,4),((some 0),0),((some 1),1),((some 1),2)],[cJ 7,.ptr 0 0,.ptr 1 0,.ptr 2 0,.ptr 3 0],[(6,.cells [cI 2]),(5,.cells [cI 8,cI 0,cI 0,cI 2,cI 0,cI 0,cI 7,cI 1,cI 0,cI 0,cI 0,cI 0]),(4,.cells [cF,.lim 1,cI 0,cF,.lim 1,cI 0,cF]),(3,.cells [cI 53]),(2,.cells [cF,.lim 1,cJ 4]),(1,.cells [cI 1,.sl 5 0 2 6 none,.sl 6 0 1 1 none,cI 1,.v (.slice none 0 0)]),(0,.cells [.sl 4 0 1 7 none])],.tup [.sl 15 0 1 7 none,cF],[(15,.cells [cF,.lim 255,cJ 7,cF,.lim 257,cJ 7,cF])],385⟩
theorem mO4:zAK Tryz.prog glo 282 mE4:=
 (zAM [] (zAI _ _)).entry 100000 282 mE4 (by kernel_rfl) (by kernel_rfl)
def mE5:ME:=⟨7,[(none,1),(none,2),(none,3),(none,4),((some 0),0),((some 1),1),((some 1),2)],[cJ 6,.ptr 0 0,.ptr 1 0,.ptr 2 0,.ptr 3 0],[(6,.cells [cI 2]),(5,.cells [cI 8,cI 0,cI 0,cI 2,cI 0,cI 0,cI 7,cI 1,cI 0,cI 0,cI 0,cI 0]),(4,.cells [cF,.lim 1,cI 0,cF,.lim 1,cI 0,cF]),(3,.cells [cI 53]),(2,.cells [cF,.lim 1,cJ 4]),(1,.cells [cI 1,.sl 5 0 2 6 none,.sl 6 0 1 1 none,cI 1,.v (.slice none 0 0)]),(0,.cells [.sl 4 0 1 7 none])],.tup [.sl 15 0 1 7 none,cF],[(15,.cells [cF,.lim 127,cJ 6,cF,.lim 129,cJ 6,cF])],385⟩
theorem mO5:zAK Tryz.prog glo 282 mE5:=
 (zAM [] (zAI _ _)).entry 100000 282 mE5 (by kernel_rfl) (by kernel_rfl)
def mE6:ME:=⟨7,[(none,1),(none,2),(none,3),(none,4),((some 0),0),((some 1),1),((some 1),2)],[cJ 5,.ptr 0 0,.ptr 1 0,.ptr 2 0,.ptr 3 0],[(6,.cells [cI 2]),(5,.cells [cI 8,cI 0,cI 0,cI 2,cI 0,cI 0,cI 7,cI 1,cI 0,cI 0,cI 0,cI 0]),(4,.cells [cF,.lim 1,cI 0,cF,.lim 1,cI 0,cF]),(3,.cells [cI 53]),(2,.cells [cF,.lim 1,cJ 4]),(1,.cells [cI 1,.sl 5 0 2 6 none,.sl 6 0 1 1 none,cI 1,.v (.slice none 0 0)]),(0,.cells [.sl 4 0 1 7 none])],.tup [.sl 15 0 1 7 none,cF],[(15,.cells [cF,.lim 63,cJ 5,cF,.lim 65,cJ 5,cF])],385⟩
theorem mO6:zAK Tryz.prog glo 282 mE6:=
 (zAM [] (zAI _ _)).entry 100000 282 mE6 (by kernel_rfl) (by kernel_rfl)
def mE7:ME:=⟨7,[(none,1),(none,2),(none,3),(none,4),((some 0),0),((some 1),1),((some 1),2)],[cJ 4,.ptr 0 0,.ptr 1 0,.ptr 2 0,.ptr 3 0],[(6,.cells [cI 2]),(5,.cells [cI 8,cI 0,cI 0,cI 2,cI 0,cI 0,cI 7,cI 1,cI 0,cI 0,cI 0,cI 0]),(4,.cells [cF,.lim 1,cI 0,cF,.lim 1,cI 0,cF]),(3,.cells [cI 53]),(2,.cells [cF,.lim 1,cJ 4]),(1,.cells [cI 1,.sl 5 0 2 6 none,.sl 6 0 1 1 none,cI 1,.v (.slice none 0 0)]),(0,.cells [.sl 4 0 1 7 none])],.tup [.sl 15 0 1 7 none,cF],[(15,.cells [cF,.lim 31,cJ 4,cF,.lim 33,cJ 4,cF])],385⟩
theorem mO7:zAK Tryz.prog glo 282 mE7:=
 (zAM [] (zAI _ _)).entry 100000 282 mE7 (by kernel_rfl) (by kernel_rfl)
def mE8:ME:=⟨4,[(none,1),(none,2),(none,5),(none,9)],[.agg [cI 1,.sl 0 0 2 6 none,.sl 1 0 1 1 none,cI 1,.v (.slice none 0 0)],.sl 2 0 1 7 none,.agg [cF,.lim 1,cJ 4],.sl 3 0 1 7 none,cI 53],[(3,.cells [cF,.lim 15,cJ 3,cF,.lim 17,cJ 3,cF]),(2,.cells [cF,.lim 1,cI 0,cF,.lim 1,cI 0,cF]),(1,.cells [cI 2]),(0,.cells [cI 8,cI 0,cI 0,cI 2,cI 0,cI 0,cI 7,cI 1,cI 0,cI 0,cI 0,cI 0])],.sl 350 0 1 7 none,[(350,.cells [cF,.lim 7903,cJ 12,cF,.lim 1,cI 0,cF])],351⟩
theorem mO8:zAK Tryz.prog glo 333 mE8:=
 (zAM [] (zAI _ _)).entry 100000 333 mE8 (by kernel_rfl) (by kernel_rfl)
def zV3:ME:=⟨4,[(none,1),(none,2),(none,5),(none,9)],[.agg [cI 1,.sl 0 0 2 6 none,.sl 1 0 1 1 none,cI 1,.v (.slice none 0 0)],.sl 2 0 1 7 none,.agg [cF,.lim 1,cJ 4],.sl 3 0 1 7 none,cI 53],[(3,.cells [cF,.lim 31,cJ 4,cF,.lim 1,cI 0,cF]),(2,.cells [cF,.lim 1,cI 0,cF,.lim 1,cI 0,cF]),(1,.cells [cI 2]),(0,.cells [cI 8,cI 0,cI 0,cI 2,cI 0,cI 0,cI 7,cI 1,cI 0,cI 0,cI 0,cI 0])],.sl 350 0 1 7 none,[(350,.cells [cF,.lim 31,cJ 4,cF,.lim 1,cI 0,cF])],351⟩
theorem zf8:zAK Tryz.prog glo 333 zV3:=
 (zAM [] (zAI _ _)).entry 100000 333 zV3 (by kernel_rfl) (by kernel_rfl)
def zci:ME:=⟨2,[(none,0),(none,1)],[.sl 0 0 4 7 none,.sl 1 0 4 7 none,cI 53],[(1,.cells [cF,.lim 31,cJ 4,cF,.lim 1,cI 0,cF,cT,.lim 1,cI 0,cT,.lim 961,cJ 9,cF,cF,.lim 29791,cJ 14,cF,.lim 1,cI 0,cF,cT,.lim 1,cI 0,cT,.lim 923521,cJ 19,cF]),(0,.cells [cF,.lim 31,cJ 4,cF,.lim 1,cI 0,cF,cT,.lim 1,cI 0,cT,.lim 961,cJ 9,cF,cF,.lim 29791,cJ 14,cF,.lim 1,cI 0,cF,cT,.lim 1,cI 0,cT,.lim 923521,cJ 19,cF])],.sl 6 0 4 7 (some 4),[(6,.cells [cF,.lim 961,cJ 9,cF,.lim 1,cI 0,cF,cT,.lim 1,cI 1,cT,.lim 29791,cJ 13,cF,cF,.lim 2770563,cJ 19,cF,.lim 3,cI 0,cF,cT,.lim 1,cI 2,cT,.lim 28629151,cJ 22,cF])],1697⟩
theorem zit:zAK Tryz.prog glo 476 zci:=
 (zAM [] (zAI _ _)).entry 100000 476 zci (by kernel_rfl) (by kernel_rfl)
def zcj:ME:=⟨2,[(none,0),(none,1)],[.sl 0 0 5 7 none,.sl 1 0 5 7 none,cI 53],[(1,.cells [cF,.lim 31,cJ 4,cF,.lim 1,cI 0,cF,cT,.lim 1,cI 0,cT,.lim 961,cJ 9,cF,cF,.lim 29791,cJ 14,cF,.lim 1,cI 0,cF,cT,.lim 1,cI 0,cT,.lim 923521,cJ 19,cF,cF,.lim 28629151,cJ 24,cF,.lim 1,cI 0,cF]),(0,.cells [cF,.lim 31,cJ 4,cF,.lim 1,cI 0,cF,cT,.lim 1,cI 0,cT,.lim 961,cJ 9,cF,cF,.lim 29791,cJ 14,cF,.lim 1,cI 0,cF,cT,.lim 1,cI 0,cT,.lim 923521,cJ 19,cF,cF,.lim 28629151,cJ 24,cF,.lim 1,cI 0,cF])],.sl 6 0 5 7 (some 5),[(6,.cells [cF,.lim 961,cJ 9,cF,.lim 1,cI 0,cF,cT,.lim 1,cI 1,cT,.lim 29791,cJ 13,cF,cF,.lim 2770563,cJ 19,cF,.lim 3,cI 0,cF,cT,.lim 1,cI 2,cT,.lim 28629151,cJ 22,cF,cF,.lim 4437518405,cJ 29,cF,.lim 5,cI 0,cF])],2587⟩
theorem ziu:zAK Tryz.prog glo 476 zcj:=
 (zAM [] (zAI _ _)).entry 100000 476 zcj (by kernel_rfl) (by kernel_rfl)
def zck:ME:=⟨1,[(none,0)],[.sl 0 0 5 7 none,.agg [cF,.lim 1,cJ 4,cF,.lim 1,cJ 4,cF],cI 53],[(0,.cells [cF,.lim 1,cI 0,cF,.lim 1,cI 0,cF,cT,.lim 1,cI 0,cT,.lim 1,cI 0,cF,cF,.lim 1,cI 0,cF,.lim 1,cI 0,cF,cT,.lim 1,cI 0,cT,.lim 1,cI 0,cF,cF,.lim 1,cI 0,cF,.lim 1,cI 0,cF])],.agg [cF,.lim 1016801,cJ 19,cF,.lim 1016801,cJ 19,cF],[],749⟩
theorem ziv:zAK Tryz.prog glo 383 zck:=
 (zAM [] (zAI _ _)).entry 100000 383 zck (by kernel_rfl) (by kernel_rfl)
def zcl:ME:=⟨2,[(none,0),((some 0),0)],[.sl 0 0 1 1 (some 1),.agg [cF,.lim 1,cJ 4,cF,.lim 1,cJ 4,cF],cI 4,cI 53],[(1,.cells [cT,.lim 1,cI 1,cT,.lim 31,cJ 3,cF]),(0,.cells [.sl 1 0 1 7 none])],.tup [.agg [cT,.lim 2427203167593363,cJ 77,cF,.lim 2427203167593363,cJ 77,cF],cT],[],2234⟩
theorem ziw:zAK Tryz.prog glo 387 zcl:=
 (zAM [] (zAI _ _)).entry 100000 387 zcl (by kernel_rfl) (by kernel_rfl)
def zV7:ME:=⟨4,[(none,0),(none,1),((some 0),0),((some 1),0)],[.sl 0 0 1 1 none,.sl 1 0 1 1 none,cI 53],[(3,.cells [cF,.lim 1,cI 1]),(2,.cells [cF,.lim 1,cJ 0]),(1,.cells [.sl 3 0 1 3 none]),(0,.cells [.sl 2 0 1 3 none])],.tup [.sl 425 0 1 1 (some 1),cI 0],[(568,.cells [cF,.lim 1,cI 1,cF,.lim 1,cI 1,cF]),(425,.cells [.sl 568 0 1 7 none])],569⟩
theorem zgC:zAK Tryz.prog glo 351 zV7:=
 (zAM [] (zAI _ _)).entry 100000 351 zV7 (by kernel_rfl) (by kernel_rfl)
def zco:ME:=⟨2,[(none,0),(none,1)],[.sl 0 0 4 7 none,.sl 1 0 4 7 none,cI 53],[(1,.cells [cF,.lim 8734253814644735,cJ 52,cF,.lim 8734253861204273,cJ 52,cF,cT,.lim 8469579539034573,cJ 52,cT,.lim 4234789724368643,cJ 51,cF,cF,.lim 8212925518399393,cJ 52,cF,.lim 4106462824870451,cJ 51,cF,cT,.lim 7964049149936991,cJ 52,cT,.lim 995506122515213,cJ 49,cF]),(0,.cells [cF,.lim 8734253814644735,cJ 52,cF,.lim 8734253861204273,cJ 52,cF,cT,.lim 8469579539034573,cJ 52,cT,.lim 4234789724368643,cJ 51,cF,cF,.lim 8212925518399393,cJ 52,cF,.lim 4106462824870451,cJ 51,cF,cT,.lim 7964049149936991,cJ 52,cT,.lim 995506122515213,cJ 49,cF])],.sl 6 0 4 7 (some 4),[(6,.cells [cF,.lim 4234789724368643,cJ 51,cF,.lim 8469579539034573,cJ 52,cF,cT,.lim 4106462824870451,cJ 50,cT,.lim 8212925518399393,cJ 51,cF,cF,.lim 2986518367545639,cJ 49,cF,.lim 5973036862452743,cJ 50,cF,cT,.lim 7722714361186631,cJ 50,cT,.lim 7722714155349919,cJ 50,cF])],1740⟩
theorem ziz:zAK Tryz.prog glo 476 zco:=
 (zAM [] (zAI _ _)).entry 100000 476 zco (by kernel_rfl) (by kernel_rfl)
def zcp:ME:=⟨4,[(none,1),(none,2),(none,5),(none,9)],[.agg [cI 1,.sl 0 0 2 6 none,.sl 1 0 1 1 none,cI 1,.v (.slice none 0 0)],.sl 2 0 1 7 none,.agg [cF,.lim 1,cJ 4],.sl 3 0 1 7 none,cI 53],[(3,.cells [cF,.lim 8725457721622527,cJ 52,cF,.lim 8743049954226481,cJ 52,cF]),(2,.cells [cF,.lim 8734253814644735,cJ 52,cF,.lim 8734253861204273,cJ 52,cF]),(1,.cells [cI 2]),(0,.cells [cI 8,cI 0,cI 0,cI 2,cI 0,cI 0,cI 7,cI 1,cI 0,cI 0,cI 0,cI 0])],.sl 351 0 1 7 none,[(351,.cells [cF,.lim 4234523044532651,cJ 51,cF,.lim 8734253861204273,cJ 52,cF])],352⟩
theorem zi0:zAK Tryz.prog glo 333 zcp:=
 (zAM [] (zAI _ _)).entry 100000 333 zcp (by kernel_rfl) (by kernel_rfl)
def zcq:ME:=⟨7,[(none,1),(none,2),(none,3),(none,4),((some 0),0),((some 1),1),((some 1),2)],[cJ 8,.ptr 0 0,.ptr 1 0,.ptr 2 0,.ptr 3 0],[(6,.cells [cI 2]),(5,.cells [cI 8,cI 0,cI 0,cI 2,cI 0,cI 0,cI 7,cI 1,cI 0,cI 0,cI 0,cI 0]),(4,.cells [cF,.lim 8734253814644735,cJ 52,cF,.lim 8734253861204273,cJ 52,cF]),(3,.cells [cI 53]),(2,.cells [cF,.lim 1,cJ 4]),(1,.cells [cI 1,.sl 5 0 2 6 none,.sl 6 0 1 1 none,cI 1,.v (.slice none 0 0)]),(0,.cells [.sl 4 0 1 7 none])],.tup [.sl 15 0 1 7 none,cF],[(15,.cells [cF,.lim 8716661628600319,cJ 52,cF,.lim 8751846047248689,cJ 52,cF])],386⟩
theorem zi1:zAK Tryz.prog glo 282 zcq:=
 (zAM [] (zAI _ _)).entry 100000 282 zcq (by kernel_rfl) (by kernel_rfl)
def zcr:ME:=⟨7,[(none,1),(none,2),(none,3),(none,4),((some 0),0),((some 1),1),((some 1),2)],[cJ 7,.ptr 0 0,.ptr 1 0,.ptr 2 0,.ptr 3 0],[(6,.cells [cI 2]),(5,.cells [cI 8,cI 0,cI 0,cI 2,cI 0,cI 0,cI 7,cI 1,cI 0,cI 0,cI 0,cI 0]),(4,.cells [cF,.lim 8734253814644735,cJ 52,cF,.lim 8734253861204273,cJ 52,cF]),(3,.cells [cI 53]),(2,.cells [cF,.lim 1,cJ 4]),(1,.cells [cI 1,.sl 5 0 2 6 none,.sl 6 0 1 1 none,cI 1,.v (.slice none 0 0)]),(0,.cells [.sl 4 0 1 7 none])],.tup [.sl 15 0 1 7 none,cF],[(15,.cells [cF,.lim 8699069442555903,cJ 52,cF,.lim 8769438233293105,cJ 52,cF])],386⟩
theorem zi2:zAK Tryz.prog glo 282 zcr:=
 (zAM [] (zAI _ _)).entry 100000 282 zcr (by kernel_rfl) (by kernel_rfl)
end Go.Proofs.YtchkfjgcbbbffaaGreatDoor
end
