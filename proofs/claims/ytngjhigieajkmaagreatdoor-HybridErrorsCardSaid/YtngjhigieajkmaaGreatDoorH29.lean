/- Bundle 29: what the law's walk stands on: V3t. -/
import Derived.Test.YtngjhigieajkmaaGreatDoorH23
import Derived.Test.YtngjhigieajkmaaGreatDoorH24
import Derived.Test.YtngjhigieajkmaaGreatDoorH26
import Derived.Test.YtngjhigieajkmaaGreatDoorH27
import Derived.Test.YtngjhigieajkmaaGreatDoorH28
set_option maxRecDepth 100000
set_option maxHeartbeats 20000000
set_option linter.all false
noncomputable section
namespace Go.Proofs.YtngjhigieajkmaaGreatDoor
def zV3:ME:=⟨3,[(none,1),(none,2),(none,5)],[.agg [cI 1,.sl 0 0 1 6 none,.sl 1 0 1 1 none,cI 1,.v (.slice none 0 0)],.sl 2 0 1 7 none,.agg [cF,.lim 1,cJ 2],cI 50],[(2,.cells [cF,.v (.slice none 0 0),cI 0,cF,.v (.slice none 0 0),cI 0,cF]),(1,.cells [cI 1]),(0,.cells [cI 1,cI 0,cI 0,cI 0,cI 1,cI 1])],.tup [.sl 5074 0 1 7 none,cI 0],[(5074,.cells [cT,.lim 1,cJ 2,cF,.lim 1,cJ 2,cF])],5363⟩
theorem zf8:zAK Tryz.prog glo 176 zV3:=
 (zAM [(251,[mE4,mE5,mE6,mE7,mE8,mE9,zch])] (zAD (zAC mO4 (zAC mO5 (zAC mO6 (zAC mO7 (zAC mO8 (zAC mO9 (zAC zis (zAJ _ _ _)))))))) (zAI _ _))).entry 100000 176 zV3 (by kernel_rfl) (by kernel_rfl)
def zcx:ME:=⟨4,[(none,1),(none,2),(none,5),(none,10)],[.agg [cI 1,.sl 0 0 1 6 none,.sl 1 0 1 1 none,cI 1,.v (.slice none 0 0)],.sl 2 0 1 7 none,.agg [cI 1,cI 4,cI 50,cF,.sl 3 0 1 1 none,cJ 2,cI 16,cI 60]],[(3,.cells [.i .u32 (.ofNat 1)]),(2,.cells [cF,.lim 1,cJ 1,cF,.lim 1,cJ 1,cF]),(1,.cells [cI 1]),(0,.cells [cI 1,cI 0,cI 0,cI 0,cI 1,cI 1])],.tup [.agg [cF,.lim 1,cJ 2],cI 0],[],6087⟩
theorem zi8:zAK Tryz.prog glo 112 zcx:=
 (zAM [(247,[zcq]),(176,[zWB])] (zAD (zAC zi1 (zAJ _ _ _)) (zAD (zAC zgG (zAJ _ _ _)) (zAI _ _)))).entry 100000 112 zcx (by kernel_rfl) (by kernel_rfl)
def zcy:ME:=⟨3,[(none,1),(none,2),(none,5)],[.agg [cI 1,.sl 0 0 1 6 none,.sl 1 0 1 1 none,cI 1,.v (.slice none 0 0)],.sl 2 0 1 7 none,.agg [cF,.lim 1,cJ 2],cI 4,cI 50],[(2,.cells [cF,.lim 1,cJ 1,cF,.lim 1,cJ 1,cF]),(1,.cells [cI 1]),(0,.cells [cI 1,cI 0,cI 0,cI 0,cI 1,cI 1])],.tup [.sl 6683 0 1 7 none,.sl 9271 0 1 7 none,cI 0],[(9271,.cells [cF,.lim 3,cJ 2,cF,.lim 3,cJ 2,cF]),(6683,.cells [cF,.lim 1,cJ 1,cF,.lim 3,cJ 2,cF])],9272⟩
theorem zi9:zAK Tryz.prog glo 488 zcy:=
 (zAM [(176,[zWB]),(253,[zcw]),(247,[zcq])] (zAD (zAC zgG (zAJ _ _ _)) (zAD (zAC zi7 (zAJ _ _ _)) (zAD (zAC zi1 (zAJ _ _ _)) (zAI _ _))))).entry 100000 488 zcy (by kernel_rfl) (by kernel_rfl)
def zWG:ME:=⟨4,[(none,1),(none,2),(none,5),(none,10)],[.agg [cI 1,.sl 0 0 1 6 none,.sl 1 0 1 1 none,cI 1,.v (.slice none 0 0)],.sl 2 0 1 7 none,.agg [cI 1,cI 4,cI 50,cF,.sl 3 0 1 1 none,cJ 2,cI 16,cI 60]],[(3,.cells [.i .u32 (.ofNat 1)]),(2,.cells [cF,.lim 3,cJ 2,cF,.lim 3,cJ 2,cF]),(1,.cells [cI 1]),(0,.cells [cI 1,cI 0,cI 0,cI 0,cI 1,cI 1])],.tup [.agg [cF,.lim 1,cJ 2],cI 0],[],6087⟩
theorem zgL:zAK Tryz.prog glo 112 zWG:=
 (zAM [(247,[zWC]),(176,[zc4])] (zAD (zAC zgH (zAJ _ _ _)) (zAD (zAC zjF (zAJ _ _ _)) (zAI _ _)))).entry 100000 112 zWG (by kernel_rfl) (by kernel_rfl)
def zc5:ME:=⟨3,[(none,1),(none,2),(none,5)],[.agg [cI 1,.sl 0 0 1 6 none,.sl 1 0 1 1 none,cI 1,.v (.slice none 0 0)],.sl 2 0 1 7 none,.agg [cF,.lim 1,cJ 2],cI 4,cI 50],[(2,.cells [cF,.lim 3,cJ 2,cF,.lim 3,cJ 2,cF]),(1,.cells [cI 1]),(0,.cells [cI 1,cI 0,cI 0,cI 0,cI 1,cI 1])],.tup [.sl 6683 0 1 7 none,.sl 9271 0 1 7 none,cI 0],[(9271,.cells [cF,.lim 1,cJ 0,cF,.lim 1,cJ 0,cF]),(6683,.cells [cF,.lim 3,cJ 2,cF,.lim 1,cJ 0,cF])],9272⟩
theorem zjG:zAK Tryz.prog glo 488 zc5:=
 (zAM [(176,[zc4]),(253,[zc3]),(247,[zWC])] (zAD (zAC zjF (zAJ _ _ _)) (zAD (zAC zjE (zAJ _ _ _)) (zAD (zAC zgH (zAJ _ _ _)) (zAI _ _))))).entry 100000 488 zc5 (by kernel_rfl) (by kernel_rfl)
def zdE:ME:=⟨4,[(none,1),(none,2),(none,5),(none,10)],[.agg [cI 1,.sl 0 0 1 6 none,.sl 1 0 1 1 none,cI 1,.v (.slice none 0 0)],.sl 2 0 1 7 none,.agg [cI 1,cI 4,cI 50,cF,.sl 3 0 1 1 none,cJ 2,cI 16,cI 60]],[(3,.cells [.i .u32 (.ofNat 1)]),(2,.cells [cF,.lim 1,cJ 0,cF,.lim 1,cJ 0,cF]),(1,.cells [cI 1]),(0,.cells [cI 1,cI 0,cI 0,cI 0,cI 1,cI 1])],.tup [.agg [cF,.lim 1,cJ 2],cI 0],[],6087⟩
theorem zjP:zAK Tryz.prog glo 112 zdE:=
 (zAM [(247,[zc6]),(176,[zdD])] (zAD (zAC zjH (zAJ _ _ _)) (zAD (zAC zjO (zAJ _ _ _)) (zAI _ _)))).entry 100000 112 zdE (by kernel_rfl) (by kernel_rfl)
def zWJ:ME:=⟨3,[(none,1),(none,2),(none,5)],[.agg [cI 1,.sl 0 0 1 6 none,.sl 1 0 1 1 none,cI 1,.v (.slice none 0 0)],.sl 2 0 1 7 none,.agg [cF,.lim 1,cJ 2],cI 4,cI 50],[(2,.cells [cF,.lim 1,cJ 0,cF,.lim 1,cJ 0,cF]),(1,.cells [cI 1]),(0,.cells [cI 1,cI 0,cI 0,cI 0,cI 1,cI 1])],.tup [.sl 6683 0 1 7 none,.sl 9271 0 1 7 none,cI 0],[(9271,.cells [cF,.lim 5,cJ 2,cF,.lim 5,cJ 2,cF]),(6683,.cells [cF,.lim 1,cJ 0,cF,.lim 5,cJ 2,cF])],9272⟩
theorem zgO:zAK Tryz.prog glo 488 zWJ:=
 (zAM [(176,[zdD]),(253,[zdC]),(247,[zc6])] (zAD (zAC zjO (zAJ _ _ _)) (zAD (zAC zjN (zAJ _ _ _)) (zAD (zAC zjH (zAJ _ _ _)) (zAI _ _))))).entry 100000 488 zWJ (by kernel_rfl) (by kernel_rfl)
def zdN:ME:=⟨4,[(none,1),(none,2),(none,5),(none,10)],[.agg [cI 1,.sl 0 0 1 6 none,.sl 1 0 1 1 none,cI 1,.v (.slice none 0 0)],.sl 2 0 1 7 none,.agg [cI 1,cI 4,cI 50,cF,.sl 3 0 1 1 none,cJ 2,cI 16,cI 60]],[(3,.cells [.i .u32 (.ofNat 1)]),(2,.cells [cF,.lim 5,cJ 2,cF,.lim 5,cJ 2,cF]),(1,.cells [cI 1]),(0,.cells [cI 1,cI 0,cI 0,cI 0,cI 1,cI 1])],.tup [.agg [cF,.lim 1,cJ 2],cI 0],[],6087⟩
theorem zjY:zAK Tryz.prog glo 112 zdN:=
 (zAM [(247,[zdF]),(176,[zWL])] (zAD (zAC zjQ (zAJ _ _ _)) (zAD (zAC zgQ (zAJ _ _ _)) (zAI _ _)))).entry 100000 112 zdN (by kernel_rfl) (by kernel_rfl)
def zWO:ME:=⟨4,[(none,1),(none,2),(none,5),(none,10)],[.agg [cI 1,.sl 0 0 1 6 none,.sl 1 0 1 1 none,cI 1,.v (.slice none 0 0)],.sl 2 0 1 7 none,.agg [cI 1,cI 4,cI 50,cF,.sl 3 0 1 1 none,cJ 2,cI 16,cI 60]],[(3,.cells [.i .u32 (.ofNat 1)]),(2,.cells [cF,.lim 3,cJ 1,cF,.lim 3,cJ 1,cF]),(1,.cells [cI 1]),(0,.cells [cI 1,cI 0,cI 0,cI 0,cI 1,cI 1])],.tup [.agg [cF,.lim 1,cJ 2],cI 0],[],6087⟩
theorem zgT:zAK Tryz.prog glo 112 zWO:=
 (zAM [(247,[zdP]),(176,[zdW])] (zAD (zAC zja (zAJ _ _ _)) (zAD (zAC zjh (zAJ _ _ _)) (zAI _ _)))).entry 100000 112 zWO (by kernel_rfl) (by kernel_rfl)
def zw2:ME:=⟨4,[(none,1),(none,2),(none,5),(none,10)],[.agg [cI 1,.sl 0 0 1 6 none,.sl 1 0 1 1 none,cI 1,.v (.slice none 0 0)],.sl 2 0 1 7 none,.agg [cI 1,cI 4,cI 50,cF,.sl 3 0 1 1 none,cJ 2,cI 16,cI 60]],[(3,.cells [.i .u32 (.ofNat 1)]),(2,.cells [cF,.lim 7,cJ 2,cF,.lim 7,cJ 2,cF]),(1,.cells [cI 1]),(0,.cells [cI 1,cI 0,cI 0,cI 0,cI 1,cI 1])],.tup [.agg [cF,.lim 1,cJ 2],cI 0],[],6087⟩
theorem zzA:zAK Tryz.prog glo 112 zw2:=
 (zAM [(247,[zdY]),(176,[zwV])] (zAD (zAC zjj (zAJ _ _ _)) (zAD (zAC zyy (zAJ _ _ _)) (zAI _ _)))).entry 100000 112 zw2 (by kernel_rfl) (by kernel_rfl)
end Go.Proofs.YtngjhigieajkmaaGreatDoor
end
