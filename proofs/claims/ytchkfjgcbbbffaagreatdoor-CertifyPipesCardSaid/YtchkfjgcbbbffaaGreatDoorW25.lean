/- Bundle 25: what the law's walk stands on: V11t. -/
import Derived.Test.YtchkfjgcbbbffaaGreatDoorW19
set_option maxRecDepth 100000
set_option maxHeartbeats 20000000
set_option linter.all false
noncomputable section
namespace Go.Proofs.YtchkfjgcbbbffaaGreatDoor
def zdR:ME:=⟨7,[(none,1),(none,2),(none,3),(none,4),((some 0),0),((some 1),1),((some 1),2)],[cJ 5,.ptr 0 0,.ptr 1 0,.ptr 2 0,.ptr 3 0],[(6,.cells [cI 2]),(5,.cells [cI 8,cI 0,cI 0,cI 2,cI 0,cI 0,cI 7,cI 1,cI 0,cI 0,cI 0,cI 0]),(4,.cells [cF,.lim 8235153585518199,cJ 52,cF,.lim 4117576846566203,cJ 51,cF]),(3,.cells [cI 53]),(2,.cells [cF,.lim 1,cJ 4]),(1,.cells [cI 1,.sl 5 0 2 6 none,.sl 6 0 1 1 none,cI 1,.v (.slice none 0 0)]),(0,.cells [.sl 4 0 1 7 none])],.tup [.sl 15 0 1 7 none,cF],[(15,.cells [cF,.lim 8094416097162871,cJ 52,cF,.lim 4187945590743867,cJ 51,cF])],386⟩
theorem zjc:zAK Tryz.prog glo 282 zdR:=
 (zAM [] (zAI _ _)).entry 100000 282 zdR (by kernel_rfl) (by kernel_rfl)
def zWM:ME:=⟨4,[(none,1),(none,2),(none,5),(none,9)],[.agg [cI 1,.sl 0 0 2 6 none,.sl 1 0 1 1 none,cI 1,.v (.slice none 0 0)],.sl 2 0 1 7 none,.agg [cF,.lim 1,cJ 4],.sl 3 0 1 7 none,cI 53],[(3,.cells [cF,.lim 7953678608807543,cJ 52,cF,.lim 4258314334921531,cJ 51,cF]),(2,.cells [cF,.lim 8235153585518199,cJ 52,cF,.lim 4117576846566203,cJ 51,cF]),(1,.cells [cI 2]),(0,.cells [cI 8,cI 0,cI 0,cI 2,cI 0,cI 0,cI 7,cI 1,cI 0,cI 0,cI 0,cI 0])],.sl 351 0 1 7 none,[(351,.cells [cF,.lim 7983504314999207,cJ 52,cF,.lim 4117576846566203,cJ 51,cF])],352⟩
theorem zgR:zAK Tryz.prog glo 333 zWM:=
 (zAM [] (zAI _ _)).entry 100000 333 zWM (by kernel_rfl) (by kernel_rfl)
def zdU:ME:=⟨4,[(none,1),(none,2),(none,5),(none,9)],[.agg [cI 1,.sl 0 0 2 6 none,.sl 1 0 1 1 none,cI 1,.v (.slice none 0 0)],.sl 2 0 1 7 none,.agg [cF,.lim 1,cJ 4],.sl 3 0 1 7 none,cI 53],[(3,.cells [cF,.lim 3999931738731525,cJ 51,cF,.lim 4117576846566203,cJ 51,cF]),(2,.cells [cF,.lim 8235153585518199,cJ 52,cF,.lim 4117576846566203,cJ 51,cF]),(1,.cells [cI 2]),(0,.cells [cI 8,cI 0,cI 0,cI 2,cI 0,cI 0,cI 7,cI 1,cI 0,cI 0,cI 0,cI 0])],.sl 351 0 1 7 none,[(351,.cells [cF,.lim 3999931738731525,cJ 51,cF,.lim 4117576846566203,cJ 51,cF])],352⟩
theorem zjf:zAK Tryz.prog glo 333 zdU:=
 (zAM [] (zAI _ _)).entry 100000 333 zdU (by kernel_rfl) (by kernel_rfl)
def zdV:ME:=⟨2,[(none,0),(none,1)],[.sl 0 0 4 7 none,.sl 1 0 4 7 none,cI 53],[(1,.cells [cF,.lim 3999931738731525,cJ 51,cF,.lim 4117576846566203,cJ 51,cF,cT,.lim 7529283457764747,cJ 52,cT,.lim 1776296211732009,cJ 50,cF,cF,.lim 6310564155405483,cJ 52,cF,.lim 1720979094617439,cJ 50,cF,cT,.lim 1573466617759419,cJ 50,cT,.lim 1401202812362661,cJ 50,cF]),(0,.cells [cF,.lim 3999931738731525,cJ 51,cF,.lim 4117576846566203,cJ 51,cF,cT,.lim 7529283457764747,cJ 52,cT,.lim 1776296211732009,cJ 50,cF,cF,.lim 6310564155405483,cJ 52,cF,.lim 1720979094617439,cJ 50,cF,cT,.lim 1573466617759419,cJ 50,cT,.lim 1401202812362661,cJ 50,cF])],.sl 6 0 4 7 (some 4),[(6,.cells [cF,.lim 1776296211732009,cJ 50,cF,.lim 7529283457764747,cJ 52,cF,cT,.lim 1720979094617439,cJ 49,cT,.lim 6310564155405483,cJ 51,cF,cF,.lim 8407216874175967,cJ 51,cF,.lim 4720399853278257,cJ 50,cF,cT,.lim 2877196132069945,cJ 49,cT,.lim 622248430733805,cJ 47,cF])],1737⟩
theorem zjg:zAK Tryz.prog glo 476 zdV:=
 (zAM [] (zAI _ _)).entry 100000 476 zdV (by kernel_rfl) (by kernel_rfl)
def zdW:ME:=⟨4,[(none,1),(none,2),(none,3),((some 2),0)],[.agg [cI 1,.sl 0 0 2 6 none,.sl 1 0 1 1 none],.sl 2 0 1 1 none,cI 4,cI 53],[(3,.cells [cF,.lim 3999931738731525,cJ 51,cF,.lim 4117576846566203,cJ 51,cF,cT,.lim 7529283457764747,cJ 52,cT,.lim 1776296211732009,cJ 50,cF,cF,.lim 6310564155405483,cJ 52,cF,.lim 1720979094617439,cJ 50,cF,cT,.lim 1573466617759419,cJ 50,cT,.lim 1401202812362661,cJ 50,cF,cF,.lim 622248430733805,cJ 49,cF,.lim 2877196132069945,cJ 51,cF]),(2,.cells [.sl 3 0 5 7 none]),(1,.cells [cI 2]),(0,.cells [cI 8,cI 0,cI 0,cI 2,cI 0,cI 0,cI 7,cI 1,cI 0,cI 0,cI 0,cI 0])],.sl 2814 0 1 1 none,[(2814,.cells [.sl 2765 0 5 7 (some 5)]),(2765,.cells [cT,.lim 7529283457764747,cJ 52,cT,.lim 1776296211732009,cJ 50,cF,cF,.lim 6310564155405483,cJ 51,cF,.lim 1720979094617439,cJ 49,cF,cT,.lim 4720399853278257,cJ 50,cT,.lim 8407216874175967,cJ 51,cF,cF,.lim 622248430733805,cJ 47,cF,.lim 2877196132069945,cJ 49,cF,cT,.lim 6576448372786505,cJ 50,cT,.lim 1381645491054257,cJ 48,cF])],2815⟩
theorem zjh:zAK Tryz.prog glo 371 zdW:=
 (zAM [] (zAI _ _)).entry 100000 371 zdW (by kernel_rfl) (by kernel_rfl)
def zdX:ME:=⟨2,[(none,0),((some 0),0)],[.sl 0 0 1 1 (some 1),.agg [cF,.lim 1,cJ 4,cF,.lim 1,cJ 4,cF],cI 4,cI 53],[(1,.cells [cT,.lim 4117576846566203,cJ 50,cT,.lim 3999931738731525,cJ 50,cF]),(0,.cells [.sl 1 0 1 7 none])],.tup [.agg [cT,.lim 3098518911781197,cJ 78,cF,.lim 3098518911781197,cJ 78,cF],cT],[],2246⟩
theorem zji:zAK Tryz.prog glo 387 zdX:=
 (zAM [] (zAI _ _)).entry 100000 387 zdX (by kernel_rfl) (by kernel_rfl)
def zdZ:ME:=⟨2,[(none,0),(none,1)],[.sl 0 0 4 7 none,.sl 1 0 4 7 none,cI 53],[(1,.cells [cF,.lim 4117576819662651,cJ 51,cF,.lim 4117576819662651,cJ 51,cF,cT,.lim 7529283359374613,cJ 52,cT,.lim 1882320839843653,cJ 50,cF,cF,.lim 860489530441839,cJ 49,cF,.lim 3441958121767357,cJ 51,cF,cT,.lim 3146933153272717,cJ 51,cT,.lim 6293866306545429,cJ 52,cF]),(0,.cells [cF,.lim 4117576819662651,cJ 51,cF,.lim 4117576819662651,cJ 51,cF,cT,.lim 7529283359374613,cJ 52,cT,.lim 1882320839843653,cJ 50,cF,cF,.lim 860489530441839,cJ 49,cF,.lim 3441958121767357,cJ 51,cF,cT,.lim 3146933153272717,cJ 51,cT,.lim 6293866306545429,cJ 52,cF])],.sl 6 0 4 7 (some 4),[(6,.cells [cF,.lim 1882320839843653,cJ 50,cF,.lim 7529283359374613,cJ 52,cF,cT,.lim 3441958121767357,cJ 50,cT,.lim 860489530441839,cJ 48,cF,cF,.lim 295024983119317,cJ 46,cF,.lim 4720399729909075,cJ 50,cF,cT,.lim 5754392076148755,cJ 50,cT,.lim 5754392076148749,cJ 50,cF])],1740⟩
theorem zjk:zAK Tryz.prog glo 476 zdZ:=
 (zAM [] (zAI _ _)).entry 100000 476 zdZ (by kernel_rfl) (by kernel_rfl)
def zda:ME:=⟨1,[(none,0)],[.sl 0 0 5 7 none,.agg [cF,.lim 1,cJ 4,cF,.lim 1,cJ 4,cF],cI 53],[(0,.cells [cF,.lim 4117576819662651,cJ 51,cF,.lim 4117576819662651,cJ 51,cF,cT,.lim 7529283359374613,cJ 52,cT,.lim 1882320839843653,cJ 50,cF,cF,.lim 860489530441839,cJ 49,cF,.lim 3441958121767357,cJ 51,cF,cT,.lim 3146933153272717,cJ 51,cT,.lim 6293866306545429,cJ 52,cF,cF,.lim 5754392076148749,cJ 52,cF,.lim 5754392076148755,cJ 52,cF])],.agg [cF,.lim 8006399523060633,cJ 52,cF,.lim 4003199761530317,cJ 51,cF],[],753⟩
theorem zjl:zAK Tryz.prog glo 383 zda:=
 (zAM [] (zAI _ _)).entry 100000 383 zda (by kernel_rfl) (by kernel_rfl)
def zWP:ME:=⟨4,[(none,0),(none,1),((some 0),0),((some 1),0)],[.sl 0 0 1 1 none,.sl 1 0 1 1 none,cI 53],[(3,.cells [cF,.lim 5942404438901075,cJ 51]),(2,.cells [cF,.lim 6826330927890355,cJ 52]),(1,.cells [.sl 3 0 1 3 none]),(0,.cells [.sl 2 0 1 3 none])],.tup [.sl 449 0 1 1 (some 1),cI 0],[(596,.cells [cF,.lim 5942404438901073,cJ 51,cF,.lim 5942404438901077,cJ 51,cF]),(449,.cells [.sl 596 0 1 7 none])],597⟩
theorem zgU:zAK Tryz.prog glo 351 zWP:=
 (zAM [] (zAI _ _)).entry 100000 351 zWP (by kernel_rfl) (by kernel_rfl)
def zde:ME:=⟨0,[],[.i .u64 (.ofNat 8),.i .u64 (.ofNat 9),cI 60],[],.tup [.agg [cF,.sl 309 0 2 1 none,cJ 56],.agg [cF,.sl 318 0 2 1 none,cJ 59]],[(318,.cells [.i .u32 (.ofNat 954437177),.i .u32 (.ofNat 238609294)]),(309,.cells [.i .u32 (.ofNat 3340530119),.i .u32 (.ofNat 29826161)])],319⟩
theorem zjp:zAK Tryz.prog glo 84 zde:=
 (zAM [] (zAI _ _)).entry 100000 84 zde (by kernel_rfl) (by kernel_rfl)
end Go.Proofs.YtchkfjgcbbbffaaGreatDoor
end
