/- Bundle 31: what the law's walk stands on: V7t. -/
import Derived.Test.YtngjhigieajkmaaGreatDoorH23
import Derived.Test.YtngjhigieajkmaaGreatDoorH25
import Derived.Test.YtngjhigieajkmaaGreatDoorH26
import Derived.Test.YtngjhigieajkmaaGreatDoorH27
import Derived.Test.YtngjhigieajkmaaGreatDoorH28
set_option maxRecDepth 100000
set_option maxHeartbeats 20000000
set_option linter.all false
noncomputable section
namespace Go.Proofs.YtngjhigieajkmaaGreatDoor
def zdO:ME:=⟨3,[(none,1),(none,2),(none,5)],[.agg [cI 1,.sl 0 0 1 6 none,.sl 1 0 1 1 none,cI 1,.v (.slice none 0 0)],.sl 2 0 1 7 none,.agg [cF,.lim 1,cJ 2],cI 4,cI 50],[(2,.cells [cF,.lim 5,cJ 2,cF,.lim 5,cJ 2,cF]),(1,.cells [cI 1]),(0,.cells [cI 1,cI 0,cI 0,cI 0,cI 1,cI 1])],.tup [.sl 6683 0 1 7 none,.sl 9271 0 1 7 none,cI 0],[(9271,.cells [cF,.lim 3,cJ 1,cF,.lim 3,cJ 1,cF]),(6683,.cells [cF,.lim 5,cJ 2,cF,.lim 3,cJ 1,cF])],9272⟩
theorem zjZ:zAK Tryz.prog glo 488 zdO:=
 (zAM [(176,[zWL]),(253,[zdM]),(247,[zdF])] (zAD (zAC zgQ (zAJ _ _ _)) (zAD (zAC zjX (zAJ _ _ _)) (zAD (zAC zjQ (zAJ _ _ _)) (zAI _ _))))).entry 100000 488 zdO (by kernel_rfl) (by kernel_rfl)
def zdX:ME:=⟨3,[(none,1),(none,2),(none,5)],[.agg [cI 1,.sl 0 0 1 6 none,.sl 1 0 1 1 none,cI 1,.v (.slice none 0 0)],.sl 2 0 1 7 none,.agg [cF,.lim 1,cJ 2],cI 4,cI 50],[(2,.cells [cF,.lim 3,cJ 1,cF,.lim 3,cJ 1,cF]),(1,.cells [cI 1]),(0,.cells [cI 1,cI 0,cI 0,cI 0,cI 1,cI 1])],.tup [.sl 6683 0 1 7 none,.sl 9271 0 1 7 none,cI 0],[(9271,.cells [cF,.lim 7,cJ 2,cF,.lim 7,cJ 2,cF]),(6683,.cells [cF,.lim 3,cJ 1,cF,.lim 7,cJ 2,cF])],9272⟩
theorem zji:zAK Tryz.prog glo 488 zdX:=
 (zAM [(176,[zdW]),(253,[zdV]),(247,[zdP])] (zAD (zAC zjh (zAJ _ _ _)) (zAD (zAC zjg (zAJ _ _ _)) (zAD (zAC zja (zAJ _ _ _)) (zAI _ _))))).entry 100000 488 zdX (by kernel_rfl) (by kernel_rfl)
def zw3:ME:=⟨3,[(none,1),(none,2),(none,5)],[.agg [cI 1,.sl 0 0 1 6 none,.sl 1 0 1 1 none,cI 1,.v (.slice none 0 0)],.sl 2 0 1 7 none,.agg [cF,.lim 1,cJ 2],cI 4,cI 50],[(2,.cells [cF,.lim 7,cJ 2,cF,.lim 7,cJ 2,cF]),(1,.cells [cI 1]),(0,.cells [cI 1,cI 0,cI 0,cI 0,cI 1,cI 1])],.tup [.sl 6683 0 1 7 none,.sl 9271 0 1 7 none,cI 0],[(9271,.cells [cF,.lim 1,cI 0,cF,.lim 1,cI 0,cF]),(6683,.cells [cF,.lim 7,cJ 2,cF,.lim 1,cI 0,cF])],9272⟩
theorem zzB:zAK Tryz.prog glo 488 zw3:=
 (zAM [(176,[zwV]),(253,[zf7]),(247,[zdY])] (zAD (zAC zyy (zAJ _ _ _)) (zAD (zAC zgV (zAJ _ _ _)) (zAD (zAC zjj (zAJ _ _ _)) (zAI _ _))))).entry 100000 488 zw3 (by kernel_rfl) (by kernel_rfl)
def zul:ME:=⟨7,[(none,1),(none,2),(none,6),(none,7),(none,8),(none,15),(none,16)],[.agg [cI 1,.sl 0 0 1 6 none,.sl 1 0 1 1 none,cI 1,.v (.slice none 0 0)],.agg [cI 1,.sl 2 0 2 6 none,.sl 3 0 1 1 none],.sl 4 0 1 7 none,.agg [cF,.lim 3,cJ 1,cF,.lim 7,cJ 2,.sl 5 0 1 7 none,.sl 6 0 1 7 none],cI 1,cI 50],[(6,.cells [cF,.lim 7,cJ 2,cF,.lim 7,cJ 2,cF]),(5,.cells [cF,.lim 3,cJ 1,cF,.lim 7,cJ 2,cF]),(4,.cells [cF,.lim 3,cJ 1,cF,.lim 3,cJ 1,cF]),(3,.cells [cI 2]),(2,.cells [cI 1,cI 0,cI 0,cI 0,cI 771,cI 1024,cI 4,cI 0,cI 1,cI 0,cI 0,cI 0]),(1,.cells [cI 1]),(0,.cells [cI 1,cI 0,cI 0,cI 0,cI 1,cI 1])],.tup [.agg [cI 0,cI 3,cI 1,cF,.lim 771,cJ 9,cF,.lim 771,cJ 9,cF,.sl 25634 0 1 7 none],cI 0],[(25634,.cells [cF,.lim 771,cJ 9,cF,.lim 771,cJ 9,cF])],25635⟩
theorem zxC:zAK Tryz.prog glo 117 zul:=
 (zAM [(186,[zuk]),(259,[zuj]),(247,[zto,ztp])] (zAD (zAC zxB (zAJ _ _ _)) (zAD (zAC zxA (zAJ _ _ _)) (zAD (zAC zvv (zAC zvw (zAJ _ _ _))) (zAI _ _))))).entry 100000 117 zul (by kernel_rfl) (by kernel_rfl)
end Go.Proofs.YtngjhigieajkmaaGreatDoor
end
