/- Bundle 27: what the law's walk stands on: V5t. -/
import Derived.Test.YtngjhigieajkmaaGreatDoorH23
set_option maxRecDepth 100000
set_option maxHeartbeats 20000000
set_option linter.all false
noncomputable section
namespace Go.Proofs.YtngjhigieajkmaaGreatDoor
def zc8:ME:=⟨4,[(none,1),(none,2),(none,5),(none,9)],[.agg [cI 1,.sl 0 0 1 6 none,.sl 1 0 1 1 none,cI 1,.v (.slice none 0 0)],.sl 2 0 1 7 none,.agg [cF,.lim 1,cJ 2],.sl 3 0 1 7 none,cI 50],[(3,.cells [cF,.lim 255,cJ 8,cF,.lim 257,cJ 8,cF]),(2,.cells [cF,.lim 1,cJ 0,cF,.lim 1,cJ 0,cF]),(1,.cells [cI 1]),(0,.cells [cI 1,cI 0,cI 0,cI 0,cI 1,cI 1])],cF,[],290⟩
theorem zjJ:zAK Tryz.prog glo 253 zc8:=
 (zAM [] (zAI _ _)).entry 100000 253 zc8 (by kernel_rfl) (by kernel_rfl)
def zc9:ME:=⟨4,[(none,1),(none,2),(none,5),(none,9)],[.agg [cI 1,.sl 0 0 1 6 none,.sl 1 0 1 1 none,cI 1,.v (.slice none 0 0)],.sl 2 0 1 7 none,.agg [cF,.lim 1,cJ 2],.sl 3 0 1 7 none,cI 50],[(3,.cells [cF,.lim 127,cJ 7,cF,.lim 129,cJ 7,cF]),(2,.cells [cF,.lim 1,cJ 0,cF,.lim 1,cJ 0,cF]),(1,.cells [cI 1]),(0,.cells [cI 1,cI 0,cI 0,cI 0,cI 1,cI 1])],cF,[],290⟩
theorem zjK:zAK Tryz.prog glo 253 zc9:=
 (zAM [] (zAI _ _)).entry 100000 253 zc9 (by kernel_rfl) (by kernel_rfl)
def zWH:ME:=⟨4,[(none,1),(none,2),(none,5),(none,9)],[.agg [cI 1,.sl 0 0 1 6 none,.sl 1 0 1 1 none,cI 1,.v (.slice none 0 0)],.sl 2 0 1 7 none,.agg [cF,.lim 1,cJ 2],.sl 3 0 1 7 none,cI 50],[(3,.cells [cF,.lim 63,cJ 6,cF,.lim 65,cJ 6,cF]),(2,.cells [cF,.lim 1,cJ 0,cF,.lim 1,cJ 0,cF]),(1,.cells [cI 1]),(0,.cells [cI 1,cI 0,cI 0,cI 0,cI 1,cI 1])],cF,[],290⟩
theorem zgM:zAK Tryz.prog glo 253 zWH:=
 (zAM [] (zAI _ _)).entry 100000 253 zWH (by kernel_rfl) (by kernel_rfl)
def zdA:ME:=⟨4,[(none,1),(none,2),(none,5),(none,9)],[.agg [cI 1,.sl 0 0 1 6 none,.sl 1 0 1 1 none,cI 1,.v (.slice none 0 0)],.sl 2 0 1 7 none,.agg [cF,.lim 1,cJ 2],.sl 3 0 1 7 none,cI 50],[(3,.cells [cF,.lim 31,cJ 5,cF,.lim 33,cJ 5,cF]),(2,.cells [cF,.lim 1,cJ 0,cF,.lim 1,cJ 0,cF]),(1,.cells [cI 1]),(0,.cells [cI 1,cI 0,cI 0,cI 0,cI 1,cI 1])],cF,[],290⟩
theorem zjL:zAK Tryz.prog glo 253 zdA:=
 (zAM [] (zAI _ _)).entry 100000 253 zdA (by kernel_rfl) (by kernel_rfl)
def zWI:ME:=⟨4,[(none,1),(none,2),(none,5),(none,9)],[.agg [cI 1,.sl 0 0 1 6 none,.sl 1 0 1 1 none,cI 1,.v (.slice none 0 0)],.sl 2 0 1 7 none,.agg [cF,.lim 1,cJ 2],.sl 3 0 1 7 none,cI 50],[(3,.cells [cF,.lim 15,cJ 4,cF,.lim 17,cJ 4,cF]),(2,.cells [cF,.lim 1,cJ 0,cF,.lim 1,cJ 0,cF]),(1,.cells [cI 1]),(0,.cells [cI 1,cI 0,cI 0,cI 0,cI 1,cI 1])],cF,[],290⟩
theorem zgN:zAK Tryz.prog glo 253 zWI:=
 (zAM [] (zAI _ _)).entry 100000 253 zWI (by kernel_rfl) (by kernel_rfl)
def zdB:ME:=⟨4,[(none,1),(none,2),(none,5),(none,9)],[.agg [cI 1,.sl 0 0 1 6 none,.sl 1 0 1 1 none,cI 1,.v (.slice none 0 0)],.sl 2 0 1 7 none,.agg [cF,.lim 1,cJ 2],.sl 3 0 1 7 none,cI 50],[(3,.cells [cF,.lim 7,cJ 3,cF,.lim 9,cJ 3,cF]),(2,.cells [cF,.lim 1,cJ 0,cF,.lim 1,cJ 0,cF]),(1,.cells [cI 1]),(0,.cells [cI 1,cI 0,cI 0,cI 0,cI 1,cI 1])],cF,[],290⟩
theorem zjM:zAK Tryz.prog glo 253 zdB:=
 (zAM [] (zAI _ _)).entry 100000 253 zdB (by kernel_rfl) (by kernel_rfl)
def zdC:ME:=⟨4,[(none,1),(none,2),(none,5),(none,9)],[.agg [cI 1,.sl 0 0 1 6 none,.sl 1 0 1 1 none,cI 1,.v (.slice none 0 0)],.sl 2 0 1 7 none,.agg [cF,.lim 1,cJ 2],.sl 3 0 1 7 none,cI 50],[(3,.cells [cF,.lim 3,cJ 2,cF,.lim 5,cJ 2,cF]),(2,.cells [cF,.lim 1,cJ 0,cF,.lim 1,cJ 0,cF]),(1,.cells [cI 1]),(0,.cells [cI 1,cI 0,cI 0,cI 0,cI 1,cI 1])],cT,[],290⟩
theorem zjN:zAK Tryz.prog glo 253 zdC:=
 (zAM [] (zAI _ _)).entry 100000 253 zdC (by kernel_rfl) (by kernel_rfl)
def zdF:ME:=⟨3,[(none,1),(none,2),(none,5)],[.agg [cI 1,.sl 0 0 1 6 none,.sl 1 0 1 1 none,cI 1,.v (.slice none 0 0)],.sl 2 0 1 7 none,cI 4,cI 50],[(2,.cells [cF,.lim 5,cJ 2,cF,.lim 5,cJ 2,cF]),(1,.cells [cI 1]),(0,.cells [cI 1,cI 0,cI 0,cI 0,cI 1,cI 1])],.tup [.sl 16 0 1 1 none,cI 0],[(720,.cells [cF,.lim 5,cJ 2,cF,.lim 5,cJ 2,cF,cF,.lim 1,cI 0,cF,.lim 1,cI 0,cF,cF,.v (.slice none 0 0),cI 0,cF,.v (.slice none 0 0),cI 0,cF,cF,.v (.slice none 0 0),cI 0,cF,.v (.slice none 0 0),cI 0,cF,cF,.v (.slice none 0 0),cI 0,cF,.v (.slice none 0 0),cI 0,cF]),(16,.cells [.sl 720 0 5 7 none])],721⟩
theorem zjQ:zAK Tryz.prog glo 247 zdF:=
 (zAM [] (zAI _ _)).entry 100000 247 zdF (by kernel_rfl) (by kernel_rfl)
def zdG:ME:=⟨4,[(none,1),(none,2),(none,5),(none,9)],[.agg [cI 1,.sl 0 0 1 6 none,.sl 1 0 1 1 none,cI 1,.v (.slice none 0 0)],.sl 2 0 1 7 none,.agg [cF,.lim 1,cJ 2],.sl 3 0 1 7 none,cI 50],[(3,.cells [cF,.lim 639,cJ 9,cF,.lim 641,cJ 9,cF]),(2,.cells [cF,.lim 5,cJ 2,cF,.lim 5,cJ 2,cF]),(1,.cells [cI 1]),(0,.cells [cI 1,cI 0,cI 0,cI 0,cI 1,cI 1])],cF,[],290⟩
theorem zjR:zAK Tryz.prog glo 253 zdG:=
 (zAM [] (zAI _ _)).entry 100000 253 zdG (by kernel_rfl) (by kernel_rfl)
def zdH:ME:=⟨4,[(none,1),(none,2),(none,5),(none,9)],[.agg [cI 1,.sl 0 0 1 6 none,.sl 1 0 1 1 none,cI 1,.v (.slice none 0 0)],.sl 2 0 1 7 none,.agg [cF,.lim 1,cJ 2],.sl 3 0 1 7 none,cI 50],[(3,.cells [cF,.lim 319,cJ 8,cF,.lim 321,cJ 8,cF]),(2,.cells [cF,.lim 5,cJ 2,cF,.lim 5,cJ 2,cF]),(1,.cells [cI 1]),(0,.cells [cI 1,cI 0,cI 0,cI 0,cI 1,cI 1])],cF,[],290⟩
theorem zjS:zAK Tryz.prog glo 253 zdH:=
 (zAM [] (zAI _ _)).entry 100000 253 zdH (by kernel_rfl) (by kernel_rfl)
def zdI:ME:=⟨4,[(none,1),(none,2),(none,5),(none,9)],[.agg [cI 1,.sl 0 0 1 6 none,.sl 1 0 1 1 none,cI 1,.v (.slice none 0 0)],.sl 2 0 1 7 none,.agg [cF,.lim 1,cJ 2],.sl 3 0 1 7 none,cI 50],[(3,.cells [cF,.lim 159,cJ 7,cF,.lim 161,cJ 7,cF]),(2,.cells [cF,.lim 5,cJ 2,cF,.lim 5,cJ 2,cF]),(1,.cells [cI 1]),(0,.cells [cI 1,cI 0,cI 0,cI 0,cI 1,cI 1])],cF,[],290⟩
theorem zjT:zAK Tryz.prog glo 253 zdI:=
 (zAM [] (zAI _ _)).entry 100000 253 zdI (by kernel_rfl) (by kernel_rfl)
def zdJ:ME:=⟨4,[(none,1),(none,2),(none,5),(none,9)],[.agg [cI 1,.sl 0 0 1 6 none,.sl 1 0 1 1 none,cI 1,.v (.slice none 0 0)],.sl 2 0 1 7 none,.agg [cF,.lim 1,cJ 2],.sl 3 0 1 7 none,cI 50],[(3,.cells [cF,.lim 79,cJ 6,cF,.lim 81,cJ 6,cF]),(2,.cells [cF,.lim 5,cJ 2,cF,.lim 5,cJ 2,cF]),(1,.cells [cI 1]),(0,.cells [cI 1,cI 0,cI 0,cI 0,cI 1,cI 1])],cF,[],290⟩
theorem zjU:zAK Tryz.prog glo 253 zdJ:=
 (zAM [] (zAI _ _)).entry 100000 253 zdJ (by kernel_rfl) (by kernel_rfl)
def zWK:ME:=⟨4,[(none,1),(none,2),(none,5),(none,9)],[.agg [cI 1,.sl 0 0 1 6 none,.sl 1 0 1 1 none,cI 1,.v (.slice none 0 0)],.sl 2 0 1 7 none,.agg [cF,.lim 1,cJ 2],.sl 3 0 1 7 none,cI 50],[(3,.cells [cF,.lim 39,cJ 5,cF,.lim 41,cJ 5,cF]),(2,.cells [cF,.lim 5,cJ 2,cF,.lim 5,cJ 2,cF]),(1,.cells [cI 1]),(0,.cells [cI 1,cI 0,cI 0,cI 0,cI 1,cI 1])],cF,[],290⟩
theorem zgP:zAK Tryz.prog glo 253 zWK:=
 (zAM [] (zAI _ _)).entry 100000 253 zWK (by kernel_rfl) (by kernel_rfl)
def zdK:ME:=⟨4,[(none,1),(none,2),(none,5),(none,9)],[.agg [cI 1,.sl 0 0 1 6 none,.sl 1 0 1 1 none,cI 1,.v (.slice none 0 0)],.sl 2 0 1 7 none,.agg [cF,.lim 1,cJ 2],.sl 3 0 1 7 none,cI 50],[(3,.cells [cF,.lim 19,cJ 4,cF,.lim 21,cJ 4,cF]),(2,.cells [cF,.lim 5,cJ 2,cF,.lim 5,cJ 2,cF]),(1,.cells [cI 1]),(0,.cells [cI 1,cI 0,cI 0,cI 0,cI 1,cI 1])],cF,[],290⟩
theorem zjV:zAK Tryz.prog glo 253 zdK:=
 (zAM [] (zAI _ _)).entry 100000 253 zdK (by kernel_rfl) (by kernel_rfl)
def zdL:ME:=⟨4,[(none,1),(none,2),(none,5),(none,9)],[.agg [cI 1,.sl 0 0 1 6 none,.sl 1 0 1 1 none,cI 1,.v (.slice none 0 0)],.sl 2 0 1 7 none,.agg [cF,.lim 1,cJ 2],.sl 3 0 1 7 none,cI 50],[(3,.cells [cF,.lim 9,cJ 3,cF,.lim 11,cJ 3,cF]),(2,.cells [cF,.lim 5,cJ 2,cF,.lim 5,cJ 2,cF]),(1,.cells [cI 1]),(0,.cells [cI 1,cI 0,cI 0,cI 0,cI 1,cI 1])],cF,[],290⟩
theorem zjW:zAK Tryz.prog glo 253 zdL:=
 (zAM [] (zAI _ _)).entry 100000 253 zdL (by kernel_rfl) (by kernel_rfl)
def zdM:ME:=⟨4,[(none,1),(none,2),(none,5),(none,9)],[.agg [cI 1,.sl 0 0 1 6 none,.sl 1 0 1 1 none,cI 1,.v (.slice none 0 0)],.sl 2 0 1 7 none,.agg [cF,.lim 1,cJ 2],.sl 3 0 1 7 none,cI 50],[(3,.cells [cF,.lim 1,cJ 0,cF,.lim 3,cJ 1,cF]),(2,.cells [cF,.lim 5,cJ 2,cF,.lim 5,cJ 2,cF]),(1,.cells [cI 1]),(0,.cells [cI 1,cI 0,cI 0,cI 0,cI 1,cI 1])],cT,[],290⟩
theorem zjX:zAK Tryz.prog glo 253 zdM:=
 (zAM [] (zAI _ _)).entry 100000 253 zdM (by kernel_rfl) (by kernel_rfl)
def zdP:ME:=⟨3,[(none,1),(none,2),(none,5)],[.agg [cI 1,.sl 0 0 1 6 none,.sl 1 0 1 1 none,cI 1,.v (.slice none 0 0)],.sl 2 0 1 7 none,cI 4,cI 50],[(2,.cells [cF,.lim 3,cJ 1,cF,.lim 3,cJ 1,cF]),(1,.cells [cI 1]),(0,.cells [cI 1,cI 0,cI 0,cI 0,cI 1,cI 1])],.tup [.sl 16 0 1 1 none,cI 0],[(720,.cells [cF,.lim 3,cJ 1,cF,.lim 3,cJ 1,cF,cF,.lim 1,cI 0,cF,.lim 1,cI 0,cF,cF,.v (.slice none 0 0),cI 0,cF,.v (.slice none 0 0),cI 0,cF,cF,.v (.slice none 0 0),cI 0,cF,.v (.slice none 0 0),cI 0,cF,cF,.v (.slice none 0 0),cI 0,cF,.v (.slice none 0 0),cI 0,cF]),(16,.cells [.sl 720 0 5 7 none])],721⟩
theorem zja:zAK Tryz.prog glo 247 zdP:=
 (zAM [] (zAI _ _)).entry 100000 247 zdP (by kernel_rfl) (by kernel_rfl)
def zdQ:ME:=⟨4,[(none,1),(none,2),(none,5),(none,9)],[.agg [cI 1,.sl 0 0 1 6 none,.sl 1 0 1 1 none,cI 1,.v (.slice none 0 0)],.sl 2 0 1 7 none,.agg [cF,.lim 1,cJ 2],.sl 3 0 1 7 none,cI 50],[(3,.cells [cF,.lim 767,cJ 9,cF,.lim 769,cJ 9,cF]),(2,.cells [cF,.lim 3,cJ 1,cF,.lim 3,cJ 1,cF]),(1,.cells [cI 1]),(0,.cells [cI 1,cI 0,cI 0,cI 0,cI 1,cI 1])],cF,[],290⟩
theorem zjb:zAK Tryz.prog glo 253 zdQ:=
 (zAM [] (zAI _ _)).entry 100000 253 zdQ (by kernel_rfl) (by kernel_rfl)
def zdR:ME:=⟨4,[(none,1),(none,2),(none,5),(none,9)],[.agg [cI 1,.sl 0 0 1 6 none,.sl 1 0 1 1 none,cI 1,.v (.slice none 0 0)],.sl 2 0 1 7 none,.agg [cF,.lim 1,cJ 2],.sl 3 0 1 7 none,cI 50],[(3,.cells [cF,.lim 383,cJ 8,cF,.lim 385,cJ 8,cF]),(2,.cells [cF,.lim 3,cJ 1,cF,.lim 3,cJ 1,cF]),(1,.cells [cI 1]),(0,.cells [cI 1,cI 0,cI 0,cI 0,cI 1,cI 1])],cF,[],290⟩
theorem zjc:zAK Tryz.prog glo 253 zdR:=
 (zAM [] (zAI _ _)).entry 100000 253 zdR (by kernel_rfl) (by kernel_rfl)
def zWM:ME:=⟨4,[(none,1),(none,2),(none,5),(none,9)],[.agg [cI 1,.sl 0 0 1 6 none,.sl 1 0 1 1 none,cI 1,.v (.slice none 0 0)],.sl 2 0 1 7 none,.agg [cF,.lim 1,cJ 2],.sl 3 0 1 7 none,cI 50],[(3,.cells [cF,.lim 191,cJ 7,cF,.lim 193,cJ 7,cF]),(2,.cells [cF,.lim 3,cJ 1,cF,.lim 3,cJ 1,cF]),(1,.cells [cI 1]),(0,.cells [cI 1,cI 0,cI 0,cI 0,cI 1,cI 1])],cF,[],290⟩
theorem zgR:zAK Tryz.prog glo 253 zWM:=
 (zAM [] (zAI _ _)).entry 100000 253 zWM (by kernel_rfl) (by kernel_rfl)
def zdS:ME:=⟨4,[(none,1),(none,2),(none,5),(none,9)],[.agg [cI 1,.sl 0 0 1 6 none,.sl 1 0 1 1 none,cI 1,.v (.slice none 0 0)],.sl 2 0 1 7 none,.agg [cF,.lim 1,cJ 2],.sl 3 0 1 7 none,cI 50],[(3,.cells [cF,.lim 95,cJ 6,cF,.lim 97,cJ 6,cF]),(2,.cells [cF,.lim 3,cJ 1,cF,.lim 3,cJ 1,cF]),(1,.cells [cI 1]),(0,.cells [cI 1,cI 0,cI 0,cI 0,cI 1,cI 1])],cF,[],290⟩
theorem zjd:zAK Tryz.prog glo 253 zdS:=
 (zAM [] (zAI _ _)).entry 100000 253 zdS (by kernel_rfl) (by kernel_rfl)
def zWN:ME:=⟨4,[(none,1),(none,2),(none,5),(none,9)],[.agg [cI 1,.sl 0 0 1 6 none,.sl 1 0 1 1 none,cI 1,.v (.slice none 0 0)],.sl 2 0 1 7 none,.agg [cF,.lim 1,cJ 2],.sl 3 0 1 7 none,cI 50],[(3,.cells [cF,.lim 47,cJ 5,cF,.lim 49,cJ 5,cF]),(2,.cells [cF,.lim 3,cJ 1,cF,.lim 3,cJ 1,cF]),(1,.cells [cI 1]),(0,.cells [cI 1,cI 0,cI 0,cI 0,cI 1,cI 1])],cF,[],290⟩
theorem zgS:zAK Tryz.prog glo 253 zWN:=
 (zAM [] (zAI _ _)).entry 100000 253 zWN (by kernel_rfl) (by kernel_rfl)
def zdT:ME:=⟨4,[(none,1),(none,2),(none,5),(none,9)],[.agg [cI 1,.sl 0 0 1 6 none,.sl 1 0 1 1 none,cI 1,.v (.slice none 0 0)],.sl 2 0 1 7 none,.agg [cF,.lim 1,cJ 2],.sl 3 0 1 7 none,cI 50],[(3,.cells [cF,.lim 23,cJ 4,cF,.lim 25,cJ 4,cF]),(2,.cells [cF,.lim 3,cJ 1,cF,.lim 3,cJ 1,cF]),(1,.cells [cI 1]),(0,.cells [cI 1,cI 0,cI 0,cI 0,cI 1,cI 1])],cF,[],290⟩
theorem zje:zAK Tryz.prog glo 253 zdT:=
 (zAM [] (zAI _ _)).entry 100000 253 zdT (by kernel_rfl) (by kernel_rfl)
def zdU:ME:=⟨4,[(none,1),(none,2),(none,5),(none,9)],[.agg [cI 1,.sl 0 0 1 6 none,.sl 1 0 1 1 none,cI 1,.v (.slice none 0 0)],.sl 2 0 1 7 none,.agg [cF,.lim 1,cJ 2],.sl 3 0 1 7 none,cI 50],[(3,.cells [cF,.lim 11,cJ 3,cF,.lim 13,cJ 3,cF]),(2,.cells [cF,.lim 3,cJ 1,cF,.lim 3,cJ 1,cF]),(1,.cells [cI 1]),(0,.cells [cI 1,cI 0,cI 0,cI 0,cI 1,cI 1])],cF,[],290⟩
theorem zjf:zAK Tryz.prog glo 253 zdU:=
 (zAM [] (zAI _ _)).entry 100000 253 zdU (by kernel_rfl) (by kernel_rfl)
def zdV:ME:=⟨4,[(none,1),(none,2),(none,5),(none,9)],[.agg [cI 1,.sl 0 0 1 6 none,.sl 1 0 1 1 none,cI 1,.v (.slice none 0 0)],.sl 2 0 1 7 none,.agg [cF,.lim 1,cJ 2],.sl 3 0 1 7 none,cI 50],[(3,.cells [cF,.lim 5,cJ 2,cF,.lim 7,cJ 2,cF]),(2,.cells [cF,.lim 3,cJ 1,cF,.lim 3,cJ 1,cF]),(1,.cells [cI 1]),(0,.cells [cI 1,cI 0,cI 0,cI 0,cI 1,cI 1])],cT,[],290⟩
theorem zjg:zAK Tryz.prog glo 253 zdV:=
 (zAM [] (zAI _ _)).entry 100000 253 zdV (by kernel_rfl) (by kernel_rfl)
def zdY:ME:=⟨3,[(none,1),(none,2),(none,5)],[.agg [cI 1,.sl 0 0 1 6 none,.sl 1 0 1 1 none,cI 1,.v (.slice none 0 0)],.sl 2 0 1 7 none,cI 4,cI 50],[(2,.cells [cF,.lim 7,cJ 2,cF,.lim 7,cJ 2,cF]),(1,.cells [cI 1]),(0,.cells [cI 1,cI 0,cI 0,cI 0,cI 1,cI 1])],.tup [.sl 16 0 1 1 none,cI 0],[(720,.cells [cF,.lim 7,cJ 2,cF,.lim 7,cJ 2,cF,cF,.lim 1,cI 0,cF,.lim 1,cI 0,cF,cF,.v (.slice none 0 0),cI 0,cF,.v (.slice none 0 0),cI 0,cF,cF,.v (.slice none 0 0),cI 0,cF,.v (.slice none 0 0),cI 0,cF,cF,.v (.slice none 0 0),cI 0,cF,.v (.slice none 0 0),cI 0,cF]),(16,.cells [.sl 720 0 5 7 none])],721⟩
theorem zjj:zAK Tryz.prog glo 247 zdY:=
 (zAM [] (zAI _ _)).entry 100000 247 zdY (by kernel_rfl) (by kernel_rfl)
def zdZ:ME:=⟨4,[(none,1),(none,2),(none,5),(none,9)],[.agg [cI 1,.sl 0 0 1 6 none,.sl 1 0 1 1 none,cI 1,.v (.slice none 0 0)],.sl 2 0 1 7 none,.agg [cF,.lim 1,cJ 2],.sl 3 0 1 7 none,cI 50],[(3,.cells [cF,.lim 895,cJ 9,cF,.lim 897,cJ 9,cF]),(2,.cells [cF,.lim 7,cJ 2,cF,.lim 7,cJ 2,cF]),(1,.cells [cI 1]),(0,.cells [cI 1,cI 0,cI 0,cI 0,cI 1,cI 1])],cF,[],290⟩
theorem zjk:zAK Tryz.prog glo 253 zdZ:=
 (zAM [] (zAI _ _)).entry 100000 253 zdZ (by kernel_rfl) (by kernel_rfl)
def zda:ME:=⟨4,[(none,1),(none,2),(none,5),(none,9)],[.agg [cI 1,.sl 0 0 1 6 none,.sl 1 0 1 1 none,cI 1,.v (.slice none 0 0)],.sl 2 0 1 7 none,.agg [cF,.lim 1,cJ 2],.sl 3 0 1 7 none,cI 50],[(3,.cells [cF,.lim 447,cJ 8,cF,.lim 449,cJ 8,cF]),(2,.cells [cF,.lim 7,cJ 2,cF,.lim 7,cJ 2,cF]),(1,.cells [cI 1]),(0,.cells [cI 1,cI 0,cI 0,cI 0,cI 1,cI 1])],cF,[],290⟩
theorem zjl:zAK Tryz.prog glo 253 zda:=
 (zAM [] (zAI _ _)).entry 100000 253 zda (by kernel_rfl) (by kernel_rfl)
def zdb:ME:=⟨4,[(none,1),(none,2),(none,5),(none,9)],[.agg [cI 1,.sl 0 0 1 6 none,.sl 1 0 1 1 none,cI 1,.v (.slice none 0 0)],.sl 2 0 1 7 none,.agg [cF,.lim 1,cJ 2],.sl 3 0 1 7 none,cI 50],[(3,.cells [cF,.lim 223,cJ 7,cF,.lim 225,cJ 7,cF]),(2,.cells [cF,.lim 7,cJ 2,cF,.lim 7,cJ 2,cF]),(1,.cells [cI 1]),(0,.cells [cI 1,cI 0,cI 0,cI 0,cI 1,cI 1])],cF,[],290⟩
theorem zjm:zAK Tryz.prog glo 253 zdb:=
 (zAM [] (zAI _ _)).entry 100000 253 zdb (by kernel_rfl) (by kernel_rfl)
def zWP:ME:=⟨4,[(none,1),(none,2),(none,5),(none,9)],[.agg [cI 1,.sl 0 0 1 6 none,.sl 1 0 1 1 none,cI 1,.v (.slice none 0 0)],.sl 2 0 1 7 none,.agg [cF,.lim 1,cJ 2],.sl 3 0 1 7 none,cI 50],[(3,.cells [cF,.lim 111,cJ 6,cF,.lim 113,cJ 6,cF]),(2,.cells [cF,.lim 7,cJ 2,cF,.lim 7,cJ 2,cF]),(1,.cells [cI 1]),(0,.cells [cI 1,cI 0,cI 0,cI 0,cI 1,cI 1])],cF,[],290⟩
theorem zgU:zAK Tryz.prog glo 253 zWP:=
 (zAM [] (zAI _ _)).entry 100000 253 zWP (by kernel_rfl) (by kernel_rfl)
def zdc:ME:=⟨4,[(none,1),(none,2),(none,5),(none,9)],[.agg [cI 1,.sl 0 0 1 6 none,.sl 1 0 1 1 none,cI 1,.v (.slice none 0 0)],.sl 2 0 1 7 none,.agg [cF,.lim 1,cJ 2],.sl 3 0 1 7 none,cI 50],[(3,.cells [cF,.lim 55,cJ 5,cF,.lim 57,cJ 5,cF]),(2,.cells [cF,.lim 7,cJ 2,cF,.lim 7,cJ 2,cF]),(1,.cells [cI 1]),(0,.cells [cI 1,cI 0,cI 0,cI 0,cI 1,cI 1])],cF,[],290⟩
theorem zjn:zAK Tryz.prog glo 253 zdc:=
 (zAM [] (zAI _ _)).entry 100000 253 zdc (by kernel_rfl) (by kernel_rfl)
def zdd:ME:=⟨4,[(none,1),(none,2),(none,5),(none,9)],[.agg [cI 1,.sl 0 0 1 6 none,.sl 1 0 1 1 none,cI 1,.v (.slice none 0 0)],.sl 2 0 1 7 none,.agg [cF,.lim 1,cJ 2],.sl 3 0 1 7 none,cI 50],[(3,.cells [cF,.lim 27,cJ 4,cF,.lim 29,cJ 4,cF]),(2,.cells [cF,.lim 7,cJ 2,cF,.lim 7,cJ 2,cF]),(1,.cells [cI 1]),(0,.cells [cI 1,cI 0,cI 0,cI 0,cI 1,cI 1])],cF,[],290⟩
theorem zjo:zAK Tryz.prog glo 253 zdd:=
 (zAM [] (zAI _ _)).entry 100000 253 zdd (by kernel_rfl) (by kernel_rfl)
def zde:ME:=⟨4,[(none,1),(none,2),(none,5),(none,9)],[.agg [cI 1,.sl 0 0 1 6 none,.sl 1 0 1 1 none,cI 1,.v (.slice none 0 0)],.sl 2 0 1 7 none,.agg [cF,.lim 1,cJ 2],.sl 3 0 1 7 none,cI 50],[(3,.cells [cF,.lim 13,cJ 3,cF,.lim 15,cJ 3,cF]),(2,.cells [cF,.lim 7,cJ 2,cF,.lim 7,cJ 2,cF]),(1,.cells [cI 1]),(0,.cells [cI 1,cI 0,cI 0,cI 0,cI 1,cI 1])],cF,[],290⟩
theorem zjp:zAK Tryz.prog glo 253 zde:=
 (zAM [] (zAI _ _)).entry 100000 253 zde (by kernel_rfl) (by kernel_rfl)
def zf7:ME:=⟨4,[(none,1),(none,2),(none,5),(none,9)],[.agg [cI 1,.sl 0 0 1 6 none,.sl 1 0 1 1 none,cI 1,.v (.slice none 0 0)],.sl 2 0 1 7 none,.agg [cF,.lim 1,cJ 2],.sl 3 0 1 7 none,cI 50],[(3,.cells [cF,.lim 3,cJ 1,cF,.lim 1,cI 0,cF]),(2,.cells [cF,.lim 7,cJ 2,cF,.lim 7,cJ 2,cF]),(1,.cells [cI 1]),(0,.cells [cI 1,cI 0,cI 0,cI 0,cI 1,cI 1])],cT,[],290⟩
theorem zgV:zAK Tryz.prog glo 253 zf7:=
 (zAM [] (zAI _ _)).entry 100000 253 zf7 (by kernel_rfl) (by kernel_rfl)
def zw4:ME:=⟨7,[(none,1),(none,2),(none,6),(none,7),(none,8),(none,15),(none,16)],[.agg [cI 1,.sl 0 0 1 6 none,.sl 1 0 1 1 none,cI 1,.v (.slice none 0 0)],.agg [cI 1,.sl 2 0 2 6 none,.sl 3 0 1 1 none],.sl 4 0 1 7 none,.agg [cF,.v (.slice none 0 0),cI 0,cF,.lim 1,cJ 2,.sl 5 0 1 7 none,.sl 6 0 1 7 none],cI 1,cI 50],[(6,.cells [cF,.lim 1,cJ 2,cF,.lim 1,cJ 2,cF]),(5,.cells [cF,.lim 0,cI 0,cF,.lim 1,cJ 2,cF]),(4,.cells [cF,.v (.slice none 0 0),cI 0,cF,.v (.slice none 0 0),cI 0,cF]),(3,.cells [cI 2]),(2,.cells [cI 1,cI 0,cI 0,cI 0,cI 771,cI 1024,cI 4,cI 0,cI 1,cI 0,cI 0,cI 0]),(1,.cells [cI 1]),(0,.cells [cI 1,cI 0,cI 0,cI 0,cI 1,cI 1])],.tup [.agg [cI 0,cI 1,cI 0,cF,.v (.slice none 0 0),cI 0,cF,.v (.slice none 0 0),cI 0,cF,.v (.slice none 0 0)],cI 0],[],638⟩
theorem zzC:zAK Tryz.prog glo 117 zw4:=
 (zAM [] (zAI _ _)).entry 100000 117 zw4 (by kernel_rfl) (by kernel_rfl)
def zw5:ME:=⟨7,[(none,1),(none,2),(none,6),(none,7),(none,8),(none,15),(none,16)],[.agg [cI 1,.sl 0 0 1 6 none,.sl 1 0 1 1 none,cI 1,.v (.slice none 0 0)],.agg [cI 1,.sl 2 0 2 6 none,.sl 3 0 1 1 none],.sl 4 0 1 7 none,.agg [cF,.lim 1,cJ 2,cF,.lim 1,cJ 1,.sl 5 0 1 7 none,.sl 6 0 1 7 none],cI 1,cI 50],[(6,.cells [cF,.lim 1,cJ 1,cF,.lim 1,cJ 1,cF]),(5,.cells [cF,.lim 1,cJ 2,cF,.lim 1,cJ 1,cF]),(4,.cells [cF,.lim 1,cJ 2,cF,.lim 1,cJ 2,cF]),(3,.cells [cI 2]),(2,.cells [cI 1,cI 0,cI 0,cI 0,cI 771,cI 1024,cI 4,cI 0,cI 1,cI 0,cI 0,cI 0]),(1,.cells [cI 1]),(0,.cells [cI 1,cI 0,cI 0,cI 0,cI 1,cI 1])],.tup [.agg [cI 0,cI 1,cI 0,cF,.v (.slice none 0 0),cI 0,cF,.v (.slice none 0 0),cI 0,cF,.v (.slice none 0 0)],cI 0],[],634⟩
theorem zzD:zAK Tryz.prog glo 117 zw5:=
 (zAM [] (zAI _ _)).entry 100000 117 zw5 (by kernel_rfl) (by kernel_rfl)
def zun:ME:=⟨4,[(none,1),(none,2),(none,5),(none,9)],[.agg [cI 1,.sl 0 0 1 6 none,.sl 1 0 1 1 none,cI 1,.v (.slice none 0 0)],.sl 2 0 1 7 none,.agg [cF,.lim 253,cJ 10],.sl 3 0 1 7 none,cI 50],[(3,.cells [cT,.lim 1,cJ 9,cF,.lim 1,cJ 9,cF]),(2,.cells [cF,.v (.slice none 0 0),cI 0,cF,.v (.slice none 0 0),cI 0,cF]),(1,.cells [cI 1]),(0,.cells [cI 1,cI 0,cI 0,cI 0,cI 1,cI 1])],cF,[],292⟩
theorem zxE:zAK Tryz.prog glo 253 zun:=
 (zAM [] (zAI _ _)).entry 100000 253 zun (by kernel_rfl) (by kernel_rfl)
end Go.Proofs.YtngjhigieajkmaaGreatDoor
end
