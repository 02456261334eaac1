/- Bundle 25: what the law's walk stands on: V8t. -/
import Derived.Test.YtngjhigieajkmaaGreatDoorH23
set_option maxRecDepth 100000
set_option maxHeartbeats 20000000
set_option linter.all false
noncomputable section
namespace Go.Proofs.YtngjhigieajkmaaGreatDoor
def zuf:ME:=⟨7,[(none,1),(none,2),(none,6),(none,7),(none,8),(none,15),(none,16)],[.agg [cI 1,.sl 0 0 1 6 none,.sl 1 0 1 1 none,cI 1,.v (.slice none 0 0)],.agg [cI 1,.sl 2 0 2 6 none,.sl 3 0 1 1 none],.sl 4 0 1 7 none,.agg [cF,.lim 1,cJ 1,cF,.lim 3,cJ 2,.sl 5 0 1 7 none,.sl 6 0 1 7 none],cI 1,cI 50],[(6,.cells [cF,.lim 3,cJ 2,cF,.lim 3,cJ 2,cF]),(5,.cells [cF,.lim 1,cJ 1,cF,.lim 3,cJ 2,cF]),(4,.cells [cF,.lim 1,cJ 1,cF,.lim 1,cJ 1,cF]),(3,.cells [cI 2]),(2,.cells [cI 1,cI 0,cI 0,cI 0,cI 771,cI 1024,cI 4,cI 0,cI 1,cI 0,cI 0,cI 0]),(1,.cells [cI 1]),(0,.cells [cI 1,cI 0,cI 0,cI 0,cI 1,cI 1])],.tup [.agg [cI 0,cI 1,cI 0,cF,.v (.slice none 0 0),cI 0,cF,.v (.slice none 0 0),cI 0,cF,.v (.slice none 0 0)],cI 0],[],634⟩
theorem zw6:zAK Tryz.prog glo 117 zuf:=
 (zAM [] (zAI _ _)).entry 100000 117 zuf (by kernel_rfl) (by kernel_rfl)
def zug:ME:=⟨7,[(none,1),(none,2),(none,6),(none,7),(none,8),(none,15),(none,16)],[.agg [cI 1,.sl 0 0 1 6 none,.sl 1 0 1 1 none,cI 1,.v (.slice none 0 0)],.agg [cI 1,.sl 2 0 2 6 none,.sl 3 0 1 1 none],.sl 4 0 1 7 none,.agg [cF,.lim 3,cJ 2,cF,.lim 1,cJ 0,.sl 5 0 1 7 none,.sl 6 0 1 7 none],cI 1,cI 50],[(6,.cells [cF,.lim 1,cJ 0,cF,.lim 1,cJ 0,cF]),(5,.cells [cF,.lim 3,cJ 2,cF,.lim 1,cJ 0,cF]),(4,.cells [cF,.lim 3,cJ 2,cF,.lim 3,cJ 2,cF]),(3,.cells [cI 2]),(2,.cells [cI 1,cI 0,cI 0,cI 0,cI 771,cI 1024,cI 4,cI 0,cI 1,cI 0,cI 0,cI 0]),(1,.cells [cI 1]),(0,.cells [cI 1,cI 0,cI 0,cI 0,cI 1,cI 1])],.tup [.agg [cI 0,cI 1,cI 0,cF,.v (.slice none 0 0),cI 0,cF,.v (.slice none 0 0),cI 0,cF,.v (.slice none 0 0)],cI 0],[],634⟩
theorem zw7:zAK Tryz.prog glo 117 zug:=
 (zAM [] (zAI _ _)).entry 100000 117 zug (by kernel_rfl) (by kernel_rfl)
def zuh:ME:=⟨7,[(none,1),(none,2),(none,6),(none,7),(none,8),(none,15),(none,16)],[.agg [cI 1,.sl 0 0 1 6 none,.sl 1 0 1 1 none,cI 1,.v (.slice none 0 0)],.agg [cI 1,.sl 2 0 2 6 none,.sl 3 0 1 1 none],.sl 4 0 1 7 none,.agg [cF,.lim 1,cJ 0,cF,.lim 5,cJ 2,.sl 5 0 1 7 none,.sl 6 0 1 7 none],cI 1,cI 50],[(6,.cells [cF,.lim 5,cJ 2,cF,.lim 5,cJ 2,cF]),(5,.cells [cF,.lim 1,cJ 0,cF,.lim 5,cJ 2,cF]),(4,.cells [cF,.lim 1,cJ 0,cF,.lim 1,cJ 0,cF]),(3,.cells [cI 2]),(2,.cells [cI 1,cI 0,cI 0,cI 0,cI 771,cI 1024,cI 4,cI 0,cI 1,cI 0,cI 0,cI 0]),(1,.cells [cI 1]),(0,.cells [cI 1,cI 0,cI 0,cI 0,cI 1,cI 1])],.tup [.agg [cI 0,cI 1,cI 0,cF,.v (.slice none 0 0),cI 0,cF,.v (.slice none 0 0),cI 0,cF,.v (.slice none 0 0)],cI 0],[],634⟩
theorem zw8:zAK Tryz.prog glo 117 zuh:=
 (zAM [] (zAI _ _)).entry 100000 117 zuh (by kernel_rfl) (by kernel_rfl)
def zui:ME:=⟨7,[(none,1),(none,2),(none,6),(none,7),(none,8),(none,15),(none,16)],[.agg [cI 1,.sl 0 0 1 6 none,.sl 1 0 1 1 none,cI 1,.v (.slice none 0 0)],.agg [cI 1,.sl 2 0 2 6 none,.sl 3 0 1 1 none],.sl 4 0 1 7 none,.agg [cF,.lim 5,cJ 2,cF,.lim 3,cJ 1,.sl 5 0 1 7 none,.sl 6 0 1 7 none],cI 1,cI 50],[(6,.cells [cF,.lim 3,cJ 1,cF,.lim 3,cJ 1,cF]),(5,.cells [cF,.lim 5,cJ 2,cF,.lim 3,cJ 1,cF]),(4,.cells [cF,.lim 5,cJ 2,cF,.lim 5,cJ 2,cF]),(3,.cells [cI 2]),(2,.cells [cI 1,cI 0,cI 0,cI 0,cI 771,cI 1024,cI 4,cI 0,cI 1,cI 0,cI 0,cI 0]),(1,.cells [cI 1]),(0,.cells [cI 1,cI 0,cI 0,cI 0,cI 1,cI 1])],.tup [.agg [cI 0,cI 1,cI 0,cF,.v (.slice none 0 0),cI 0,cF,.v (.slice none 0 0),cI 0,cF,.v (.slice none 0 0)],cI 0],[],634⟩
theorem zw9:zAK Tryz.prog glo 117 zui:=
 (zAM [] (zAI _ _)).entry 100000 117 zui (by kernel_rfl) (by kernel_rfl)
def zuj:ME:=⟨5,[(none,1),(none,2),(none,6),(none,7),(none,8)],[.agg [cI 1,.sl 0 0 1 6 none,.sl 1 0 1 1 none,cI 1,.v (.slice none 0 0)],.agg [cI 1,.sl 2 0 2 6 none,.sl 3 0 1 1 none],.sl 4 0 1 7 none,cI 50],[(4,.cells [cF,.lim 3,cJ 1,cF,.lim 7,cJ 2,cF]),(3,.cells [cI 2]),(2,.cells [cI 1,cI 0,cI 0,cI 0,cI 771,cI 1024,cI 4,cI 0,cI 1,cI 0,cI 0,cI 0]),(1,.cells [cI 1]),(0,.cells [cI 1,cI 0,cI 0,cI 0,cI 1,cI 1])],.agg [cF,.lim 1,cI 0,cF,.lim 1,cI 0,cF],[],445⟩
theorem zxA:zAK Tryz.prog glo 259 zuj:=
 (zAM [] (zAI _ _)).entry 100000 259 zuj (by kernel_rfl) (by kernel_rfl)
def zto:ME:=⟨3,[(none,1),(none,2),(none,5)],[.agg [cI 1,.sl 0 0 1 6 none,.sl 1 0 1 1 none,cI 1,.v (.slice none 0 0)],.sl 2 0 1 7 none,cI 8,cI 50],[(2,.cells [cF,.lim 3,cJ 1,cF,.lim 3,cJ 1,cF]),(1,.cells [cI 1]),(0,.cells [cI 1,cI 0,cI 0,cI 0,cI 1,cI 1])],.tup [.sl 16 0 1 1 none,cI 0],[(1360,.cells [cF,.lim 3,cJ 1,cF,.lim 3,cJ 1,cF,cF,.lim 1,cI 0,cF,.lim 1,cI 0,cF,cF,.v (.slice none 0 0),cI 0,cF,.v (.slice none 0 0),cI 0,cF,cF,.v (.slice none 0 0),cI 0,cF,.v (.slice none 0 0),cI 0,cF,cF,.v (.slice none 0 0),cI 0,cF,.v (.slice none 0 0),cI 0,cF,cF,.v (.slice none 0 0),cI 0,cF,.v (.slice none 0 0),cI 0,cF,cF,.v (.slice none 0 0),cI 0,cF,.v (.slice none 0 0),cI 0,cF,cF,.v (.slice none 0 0),cI 0,cF,.v (.slice none 0 0),cI 0,cF,cF,.v (.slice none 0 0),cI 0,cF,.v (.slice none 0 0),cI 0,cF]),(16,.cells [.sl 1360 0 9 7 none])],1361⟩
theorem zvv:zAK Tryz.prog glo 247 zto:=
 (zAM [] (zAI _ _)).entry 100000 247 zto (by kernel_rfl) (by kernel_rfl)
def ztp:ME:=⟨3,[(none,1),(none,2),(none,5)],[.agg [cI 1,.sl 0 0 1 6 none,.sl 1 0 1 1 none,cI 1,.v (.slice none 0 0)],.sl 2 0 1 7 none,cI 9,cI 50],[(2,.cells [cF,.lim 3,cJ 1,cF,.lim 7,cJ 2,cF]),(1,.cells [cI 1]),(0,.cells [cI 1,cI 0,cI 0,cI 0,cI 1,cI 1])],.tup [.sl 16 0 1 1 none,cI 0],[(1520,.cells [cF,.lim 3,cJ 1,cF,.lim 7,cJ 2,cF,cF,.lim 1,cI 0,cF,.lim 1,cI 0,cF,cF,.v (.slice none 0 0),cI 0,cF,.v (.slice none 0 0),cI 0,cF,cF,.v (.slice none 0 0),cI 0,cF,.v (.slice none 0 0),cI 0,cF,cF,.v (.slice none 0 0),cI 0,cF,.v (.slice none 0 0),cI 0,cF,cF,.v (.slice none 0 0),cI 0,cF,.v (.slice none 0 0),cI 0,cF,cF,.v (.slice none 0 0),cI 0,cF,.v (.slice none 0 0),cI 0,cF,cF,.v (.slice none 0 0),cI 0,cF,.v (.slice none 0 0),cI 0,cF,cF,.v (.slice none 0 0),cI 0,cF,.v (.slice none 0 0),cI 0,cF,cF,.v (.slice none 0 0),cI 0,cF,.v (.slice none 0 0),cI 0,cF]),(16,.cells [.sl 1520 0 10 7 none])],1521⟩
theorem zvw:zAK Tryz.prog glo 247 ztp:=
 (zAM [] (zAI _ _)).entry 100000 247 ztp (by kernel_rfl) (by kernel_rfl)
def zuo:ME:=⟨4,[(none,1),(none,2),(none,5),(none,9)],[.agg [cI 1,.sl 0 0 1 6 none,.sl 1 0 1 1 none,cI 1,.v (.slice none 0 0)],.sl 2 0 1 7 none,.agg [cF,.lim 253,cJ 10],.sl 3 0 1 7 none,cI 50],[(3,.cells [cT,.lim 1,cJ 8,cF,.lim 1,cJ 8,cF]),(2,.cells [cF,.v (.slice none 0 0),cI 0,cF,.v (.slice none 0 0),cI 0,cF]),(1,.cells [cI 1]),(0,.cells [cI 1,cI 0,cI 0,cI 0,cI 1,cI 1])],cF,[],292⟩
theorem zxF:zAK Tryz.prog glo 253 zuo:=
 (zAM [] (zAI _ _)).entry 100000 253 zuo (by kernel_rfl) (by kernel_rfl)
def zup:ME:=⟨4,[(none,1),(none,2),(none,5),(none,9)],[.agg [cI 1,.sl 0 0 1 6 none,.sl 1 0 1 1 none,cI 1,.v (.slice none 0 0)],.sl 2 0 1 7 none,.agg [cF,.lim 253,cJ 10],.sl 3 0 1 7 none,cI 50],[(3,.cells [cT,.lim 1,cJ 7,cF,.lim 1,cJ 7,cF]),(2,.cells [cF,.v (.slice none 0 0),cI 0,cF,.v (.slice none 0 0),cI 0,cF]),(1,.cells [cI 1]),(0,.cells [cI 1,cI 0,cI 0,cI 0,cI 1,cI 1])],cF,[],292⟩
theorem zxG:zAK Tryz.prog glo 253 zup:=
 (zAM [] (zAI _ _)).entry 100000 253 zup (by kernel_rfl) (by kernel_rfl)
def zuq:ME:=⟨4,[(none,1),(none,2),(none,5),(none,9)],[.agg [cI 1,.sl 0 0 1 6 none,.sl 1 0 1 1 none,cI 1,.v (.slice none 0 0)],.sl 2 0 1 7 none,.agg [cF,.lim 253,cJ 10],.sl 3 0 1 7 none,cI 50],[(3,.cells [cT,.lim 1,cJ 6,cF,.lim 1,cJ 6,cF]),(2,.cells [cF,.v (.slice none 0 0),cI 0,cF,.v (.slice none 0 0),cI 0,cF]),(1,.cells [cI 1]),(0,.cells [cI 1,cI 0,cI 0,cI 0,cI 1,cI 1])],cF,[],292⟩
theorem zxH:zAK Tryz.prog glo 253 zuq:=
 (zAM [] (zAI _ _)).entry 100000 253 zuq (by kernel_rfl) (by kernel_rfl)
def zur:ME:=⟨4,[(none,1),(none,2),(none,5),(none,9)],[.agg [cI 1,.sl 0 0 1 6 none,.sl 1 0 1 1 none,cI 1,.v (.slice none 0 0)],.sl 2 0 1 7 none,.agg [cF,.lim 253,cJ 10],.sl 3 0 1 7 none,cI 50],[(3,.cells [cT,.lim 1,cJ 5,cF,.lim 1,cJ 5,cF]),(2,.cells [cF,.v (.slice none 0 0),cI 0,cF,.v (.slice none 0 0),cI 0,cF]),(1,.cells [cI 1]),(0,.cells [cI 1,cI 0,cI 0,cI 0,cI 1,cI 1])],cF,[],292⟩
theorem zxI:zAK Tryz.prog glo 253 zur:=
 (zAM [] (zAI _ _)).entry 100000 253 zur (by kernel_rfl) (by kernel_rfl)
def zus:ME:=⟨4,[(none,1),(none,2),(none,5),(none,9)],[.agg [cI 1,.sl 0 0 1 6 none,.sl 1 0 1 1 none,cI 1,.v (.slice none 0 0)],.sl 2 0 1 7 none,.agg [cF,.lim 253,cJ 10],.sl 3 0 1 7 none,cI 50],[(3,.cells [cT,.lim 1,cJ 4,cF,.lim 1,cJ 4,cF]),(2,.cells [cF,.v (.slice none 0 0),cI 0,cF,.v (.slice none 0 0),cI 0,cF]),(1,.cells [cI 1]),(0,.cells [cI 1,cI 0,cI 0,cI 0,cI 1,cI 1])],cF,[],292⟩
theorem zxJ:zAK Tryz.prog glo 253 zus:=
 (zAM [] (zAI _ _)).entry 100000 253 zus (by kernel_rfl) (by kernel_rfl)
def zut:ME:=⟨4,[(none,1),(none,2),(none,5),(none,9)],[.agg [cI 1,.sl 0 0 1 6 none,.sl 1 0 1 1 none,cI 1,.v (.slice none 0 0)],.sl 2 0 1 7 none,.agg [cF,.lim 253,cJ 10],.sl 3 0 1 7 none,cI 50],[(3,.cells [cT,.lim 1,cJ 3,cF,.lim 1,cJ 3,cF]),(2,.cells [cF,.v (.slice none 0 0),cI 0,cF,.v (.slice none 0 0),cI 0,cF]),(1,.cells [cI 1]),(0,.cells [cI 1,cI 0,cI 0,cI 0,cI 1,cI 1])],cF,[],292⟩
theorem zxK:zAK Tryz.prog glo 253 zut:=
 (zAM [] (zAI _ _)).entry 100000 253 zut (by kernel_rfl) (by kernel_rfl)
def ztq:ME:=⟨4,[(none,1),(none,2),(none,5),(none,9)],[.agg [cI 1,.sl 0 0 1 6 none,.sl 1 0 1 1 none,cI 1,.v (.slice none 0 0)],.sl 2 0 1 7 none,.agg [cF,.lim 253,cJ 10],.sl 3 0 1 7 none,cI 50],[(3,.cells [cT,.lim 1,cJ 2,cF,.lim 1,cJ 2,cF]),(2,.cells [cF,.v (.slice none 0 0),cI 0,cF,.v (.slice none 0 0),cI 0,cF]),(1,.cells [cI 1]),(0,.cells [cI 1,cI 0,cI 0,cI 0,cI 1,cI 1])],cT,[],292⟩
theorem zvx:zAK Tryz.prog glo 253 ztq:=
 (zAM [] (zAI _ _)).entry 100000 253 ztq (by kernel_rfl) (by kernel_rfl)
def ztr:ME:=⟨3,[(none,1),(none,2),(none,5)],[.agg [cI 1,.sl 0 0 1 6 none,.sl 1 0 1 1 none,cI 1,.v (.slice none 0 0)],.sl 2 0 1 7 none,cI 4,cI 50],[(2,.cells [cF,.lim 253,cJ 10,cF,.lim 253,cJ 10,cF]),(1,.cells [cI 1]),(0,.cells [cI 1,cI 0,cI 0,cI 0,cI 1,cI 1])],.tup [.sl 16 0 1 1 none,cI 0],[(720,.cells [cF,.lim 253,cJ 10,cF,.lim 253,cJ 10,cF,cF,.lim 1,cI 0,cF,.lim 1,cI 0,cF,cF,.v (.slice none 0 0),cI 0,cF,.v (.slice none 0 0),cI 0,cF,cF,.v (.slice none 0 0),cI 0,cF,.v (.slice none 0 0),cI 0,cF,cF,.v (.slice none 0 0),cI 0,cF,.v (.slice none 0 0),cI 0,cF]),(16,.cells [.sl 720 0 5 7 none])],721⟩
theorem zvy:zAK Tryz.prog glo 247 ztr:=
 (zAM [] (zAI _ _)).entry 100000 247 ztr (by kernel_rfl) (by kernel_rfl)
def zuw:ME:=⟨4,[(none,1),(none,2),(none,5),(none,9)],[.agg [cI 1,.sl 0 0 1 6 none,.sl 1 0 1 1 none,cI 1,.v (.slice none 0 0)],.sl 2 0 1 7 none,.agg [cF,.lim 1,cJ 2],.sl 3 0 1 7 none,cI 50],[(3,.cells [cF,.lim 251,cJ 10,cF,.lim 255,cJ 10,cF]),(2,.cells [cF,.lim 253,cJ 10,cF,.lim 253,cJ 10,cF]),(1,.cells [cI 1]),(0,.cells [cI 1,cI 0,cI 0,cI 0,cI 1,cI 1])],cF,[],290⟩
theorem zxN:zAK Tryz.prog glo 253 zuw:=
 (zAM [] (zAI _ _)).entry 100000 253 zuw (by kernel_rfl) (by kernel_rfl)
def zux:ME:=⟨4,[(none,1),(none,2),(none,5),(none,9)],[.agg [cI 1,.sl 0 0 1 6 none,.sl 1 0 1 1 none,cI 1,.v (.slice none 0 0)],.sl 2 0 1 7 none,.agg [cF,.lim 1,cJ 2],.sl 3 0 1 7 none,cI 50],[(3,.cells [cF,.lim 249,cJ 10,cF,.lim 257,cJ 10,cF]),(2,.cells [cF,.lim 253,cJ 10,cF,.lim 253,cJ 10,cF]),(1,.cells [cI 1]),(0,.cells [cI 1,cI 0,cI 0,cI 0,cI 1,cI 1])],cF,[],290⟩
theorem zxO:zAK Tryz.prog glo 253 zux:=
 (zAM [] (zAI _ _)).entry 100000 253 zux (by kernel_rfl) (by kernel_rfl)
def zuy:ME:=⟨4,[(none,1),(none,2),(none,5),(none,9)],[.agg [cI 1,.sl 0 0 1 6 none,.sl 1 0 1 1 none,cI 1,.v (.slice none 0 0)],.sl 2 0 1 7 none,.agg [cF,.lim 1,cJ 2],.sl 3 0 1 7 none,cI 50],[(3,.cells [cF,.lim 245,cJ 10,cF,.lim 261,cJ 10,cF]),(2,.cells [cF,.lim 253,cJ 10,cF,.lim 253,cJ 10,cF]),(1,.cells [cI 1]),(0,.cells [cI 1,cI 0,cI 0,cI 0,cI 1,cI 1])],cF,[],290⟩
theorem zxP:zAK Tryz.prog glo 253 zuy:=
 (zAM [] (zAI _ _)).entry 100000 253 zuy (by kernel_rfl) (by kernel_rfl)
def zuz:ME:=⟨4,[(none,1),(none,2),(none,5),(none,9)],[.agg [cI 1,.sl 0 0 1 6 none,.sl 1 0 1 1 none,cI 1,.v (.slice none 0 0)],.sl 2 0 1 7 none,.agg [cF,.lim 1,cJ 2],.sl 3 0 1 7 none,cI 50],[(3,.cells [cF,.lim 237,cJ 10,cF,.lim 269,cJ 10,cF]),(2,.cells [cF,.lim 253,cJ 10,cF,.lim 253,cJ 10,cF]),(1,.cells [cI 1]),(0,.cells [cI 1,cI 0,cI 0,cI 0,cI 1,cI 1])],cF,[],290⟩
theorem zxQ:zAK Tryz.prog glo 253 zuz:=
 (zAM [] (zAI _ _)).entry 100000 253 zuz (by kernel_rfl) (by kernel_rfl)
def zu0:ME:=⟨4,[(none,1),(none,2),(none,5),(none,9)],[.agg [cI 1,.sl 0 0 1 6 none,.sl 1 0 1 1 none,cI 1,.v (.slice none 0 0)],.sl 2 0 1 7 none,.agg [cF,.lim 1,cJ 2],.sl 3 0 1 7 none,cI 50],[(3,.cells [cF,.lim 221,cJ 10,cF,.lim 285,cJ 10,cF]),(2,.cells [cF,.lim 253,cJ 10,cF,.lim 253,cJ 10,cF]),(1,.cells [cI 1]),(0,.cells [cI 1,cI 0,cI 0,cI 0,cI 1,cI 1])],cF,[],290⟩
theorem zxR:zAK Tryz.prog glo 253 zu0:=
 (zAM [] (zAI _ _)).entry 100000 253 zu0 (by kernel_rfl) (by kernel_rfl)
def zu1:ME:=⟨4,[(none,1),(none,2),(none,5),(none,9)],[.agg [cI 1,.sl 0 0 1 6 none,.sl 1 0 1 1 none,cI 1,.v (.slice none 0 0)],.sl 2 0 1 7 none,.agg [cF,.lim 1,cJ 2],.sl 3 0 1 7 none,cI 50],[(3,.cells [cF,.lim 189,cJ 10,cF,.lim 317,cJ 10,cF]),(2,.cells [cF,.lim 253,cJ 10,cF,.lim 253,cJ 10,cF]),(1,.cells [cI 1]),(0,.cells [cI 1,cI 0,cI 0,cI 0,cI 1,cI 1])],cF,[],290⟩
theorem zxS:zAK Tryz.prog glo 253 zu1:=
 (zAM [] (zAI _ _)).entry 100000 253 zu1 (by kernel_rfl) (by kernel_rfl)
def zu2:ME:=⟨4,[(none,1),(none,2),(none,5),(none,9)],[.agg [cI 1,.sl 0 0 1 6 none,.sl 1 0 1 1 none,cI 1,.v (.slice none 0 0)],.sl 2 0 1 7 none,.agg [cF,.lim 1,cJ 2],.sl 3 0 1 7 none,cI 50],[(3,.cells [cF,.lim 125,cJ 10,cF,.lim 381,cJ 10,cF]),(2,.cells [cF,.lim 253,cJ 10,cF,.lim 253,cJ 10,cF]),(1,.cells [cI 1]),(0,.cells [cI 1,cI 0,cI 0,cI 0,cI 1,cI 1])],cF,[],290⟩
theorem zxT:zAK Tryz.prog glo 253 zu2:=
 (zAM [] (zAI _ _)).entry 100000 253 zu2 (by kernel_rfl) (by kernel_rfl)
def zu3:ME:=⟨4,[(none,1),(none,2),(none,5),(none,9)],[.agg [cI 1,.sl 0 0 1 6 none,.sl 1 0 1 1 none,cI 1,.v (.slice none 0 0)],.sl 2 0 1 7 none,.agg [cF,.lim 1,cJ 2],.sl 3 0 1 7 none,cI 50],[(3,.cells [cT,.lim 3,cJ 10,cF,.lim 509,cJ 10,cF]),(2,.cells [cF,.lim 253,cJ 10,cF,.lim 253,cJ 10,cF]),(1,.cells [cI 1]),(0,.cells [cI 1,cI 0,cI 0,cI 0,cI 1,cI 1])],cT,[],290⟩
theorem zxU:zAK Tryz.prog glo 253 zu3:=
 (zAM [] (zAI _ _)).entry 100000 253 zu3 (by kernel_rfl) (by kernel_rfl)
def zu5:ME:=⟨4,[(none,1),(none,2),(none,5),(none,9)],[.agg [cI 1,.sl 0 0 1 6 none,.sl 1 0 1 1 none,cI 1,.v (.slice none 0 0)],.sl 2 0 1 7 none,.agg [cF,.lim 253,cJ 10],.sl 3 0 1 7 none,cI 50],[(3,.cells [cF,.lim 251,cJ 10,cF,.lim 255,cJ 10,cF]),(2,.cells [cF,.lim 253,cJ 10,cF,.lim 253,cJ 10,cF]),(1,.cells [cI 1]),(0,.cells [cI 1,cI 0,cI 0,cI 0,cI 1,cI 1])],cF,[],290⟩
theorem zxW:zAK Tryz.prog glo 253 zu5:=
 (zAM [] (zAI _ _)).entry 100000 253 zu5 (by kernel_rfl) (by kernel_rfl)
def zu6:ME:=⟨4,[(none,1),(none,2),(none,5),(none,9)],[.agg [cI 1,.sl 0 0 1 6 none,.sl 1 0 1 1 none,cI 1,.v (.slice none 0 0)],.sl 2 0 1 7 none,.agg [cF,.lim 253,cJ 10],.sl 3 0 1 7 none,cI 50],[(3,.cells [cF,.lim 249,cJ 10,cF,.lim 257,cJ 10,cF]),(2,.cells [cF,.lim 253,cJ 10,cF,.lim 253,cJ 10,cF]),(1,.cells [cI 1]),(0,.cells [cI 1,cI 0,cI 0,cI 0,cI 1,cI 1])],cF,[],290⟩
theorem zxX:zAK Tryz.prog glo 253 zu6:=
 (zAM [] (zAI _ _)).entry 100000 253 zu6 (by kernel_rfl) (by kernel_rfl)
def zu7:ME:=⟨4,[(none,1),(none,2),(none,5),(none,9)],[.agg [cI 1,.sl 0 0 1 6 none,.sl 1 0 1 1 none,cI 1,.v (.slice none 0 0)],.sl 2 0 1 7 none,.agg [cF,.lim 253,cJ 10],.sl 3 0 1 7 none,cI 50],[(3,.cells [cF,.lim 245,cJ 10,cF,.lim 261,cJ 10,cF]),(2,.cells [cF,.lim 253,cJ 10,cF,.lim 253,cJ 10,cF]),(1,.cells [cI 1]),(0,.cells [cI 1,cI 0,cI 0,cI 0,cI 1,cI 1])],cF,[],290⟩
theorem zxY:zAK Tryz.prog glo 253 zu7:=
 (zAM [] (zAI _ _)).entry 100000 253 zu7 (by kernel_rfl) (by kernel_rfl)
def zu8:ME:=⟨4,[(none,1),(none,2),(none,5),(none,9)],[.agg [cI 1,.sl 0 0 1 6 none,.sl 1 0 1 1 none,cI 1,.v (.slice none 0 0)],.sl 2 0 1 7 none,.agg [cF,.lim 253,cJ 10],.sl 3 0 1 7 none,cI 50],[(3,.cells [cF,.lim 237,cJ 10,cF,.lim 269,cJ 10,cF]),(2,.cells [cF,.lim 253,cJ 10,cF,.lim 253,cJ 10,cF]),(1,.cells [cI 1]),(0,.cells [cI 1,cI 0,cI 0,cI 0,cI 1,cI 1])],cF,[],290⟩
theorem zxZ:zAK Tryz.prog glo 253 zu8:=
 (zAM [] (zAI _ _)).entry 100000 253 zu8 (by kernel_rfl) (by kernel_rfl)
def zu9:ME:=⟨4,[(none,1),(none,2),(none,5),(none,9)],[.agg [cI 1,.sl 0 0 1 6 none,.sl 1 0 1 1 none,cI 1,.v (.slice none 0 0)],.sl 2 0 1 7 none,.agg [cF,.lim 253,cJ 10],.sl 3 0 1 7 none,cI 50],[(3,.cells [cF,.lim 221,cJ 10,cF,.lim 285,cJ 10,cF]),(2,.cells [cF,.lim 253,cJ 10,cF,.lim 253,cJ 10,cF]),(1,.cells [cI 1]),(0,.cells [cI 1,cI 0,cI 0,cI 0,cI 1,cI 1])],cF,[],290⟩
theorem zxa:zAK Tryz.prog glo 253 zu9:=
 (zAM [] (zAI _ _)).entry 100000 253 zu9 (by kernel_rfl) (by kernel_rfl)
def zvA:ME:=⟨4,[(none,1),(none,2),(none,5),(none,9)],[.agg [cI 1,.sl 0 0 1 6 none,.sl 1 0 1 1 none,cI 1,.v (.slice none 0 0)],.sl 2 0 1 7 none,.agg [cF,.lim 253,cJ 10],.sl 3 0 1 7 none,cI 50],[(3,.cells [cF,.lim 189,cJ 10,cF,.lim 317,cJ 10,cF]),(2,.cells [cF,.lim 253,cJ 10,cF,.lim 253,cJ 10,cF]),(1,.cells [cI 1]),(0,.cells [cI 1,cI 0,cI 0,cI 0,cI 1,cI 1])],cF,[],290⟩
theorem zxb:zAK Tryz.prog glo 253 zvA:=
 (zAM [] (zAI _ _)).entry 100000 253 zvA (by kernel_rfl) (by kernel_rfl)
end Go.Proofs.YtngjhigieajkmaaGreatDoor
end
