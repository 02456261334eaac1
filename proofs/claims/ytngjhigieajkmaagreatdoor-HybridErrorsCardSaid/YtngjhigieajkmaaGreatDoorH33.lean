/- Bundle 33: what the law's walk stands on: V9t. -/
import Derived.Test.YtngjhigieajkmaaGreatDoorH23
import Derived.Test.YtngjhigieajkmaaGreatDoorH24
import Derived.Test.YtngjhigieajkmaaGreatDoorH25
import Derived.Test.YtngjhigieajkmaaGreatDoorH32
set_option maxRecDepth 100000
set_option maxHeartbeats 20000000
set_option linter.all false
noncomputable section
namespace Go.Proofs.YtngjhigieajkmaaGreatDoor
def zuu:ME:=⟨4,[(none,1),(none,2),(none,5),(none,9)],[.agg [cI 1,.sl 0 0 1 6 none,.sl 1 0 1 1 none,cI 1,.v (.slice none 0 0)],.sl 2 0 1 7 none,.agg [cF,.lim 253,cJ 10],.sl 3 0 1 7 none,cI 4,cI 50],[(3,.cells [cT,.lim 1,cJ 2,cF,.lim 1,cJ 2,cF]),(2,.cells [cF,.v (.slice none 0 0),cI 0,cF,.v (.slice none 0 0),cI 0,cF]),(1,.cells [cI 1]),(0,.cells [cI 1,cI 0,cI 0,cI 0,cI 1,cI 1])],.sl 1359 0 1 7 none,[(1359,.cells [cF,.lim 0,cI 0,cF,.lim 253,cJ 10,cF])],1360⟩
theorem zxL:zAK Tryz.prog glo 489 zuu:=
 (zAM [(253,[ztq])] (zAD (zAC zvx (zAJ _ _ _)) (zAI _ _))).entry 100000 489 zuu (by kernel_rfl) (by kernel_rfl)
def zuv:ME:=⟨4,[(none,1),(none,2),(none,5),(none,6)],[.agg [cI 1,.sl 0 0 1 6 none,.sl 1 0 1 1 none,cI 1,.v (.slice none 0 0)],.sl 2 0 1 7 none,.sl 3 0 1 7 none,.agg [cF,.lim 253,cJ 10,cF,.lim 253,cJ 10,cF],cI 4,cI 50],[(3,.cells [cF,.lim 0,cI 0,cF,.lim 253,cJ 10,cF]),(2,.cells [cF,.v (.slice none 0 0),cI 0,cF,.v (.slice none 0 0),cI 0,cF]),(1,.cells [cI 1]),(0,.cells [cI 1,cI 0,cI 0,cI 0,cI 1,cI 1])],.tup [.sl 2573 0 1 7 none,cI 0],[(2573,.cells [cF,.lim 253,cJ 10,cF,.lim 253,cJ 10,cF])],2575⟩
theorem zxM:zAK Tryz.prog glo 186 zuv:=
 (zAM [(247,[mE3])] (zAD (zAC mO3 (zAJ _ _ _)) (zAI _ _))).entry 100000 186 zuv (by kernel_rfl) (by kernel_rfl)
def zu4:ME:=⟨3,[(none,1),(none,2),(none,5)],[.agg [cI 1,.sl 0 0 1 6 none,.sl 1 0 1 1 none,cI 1,.v (.slice none 0 0)],.sl 2 0 1 7 none,.agg [cF,.lim 1,cJ 2],cI 50],[(2,.cells [cF,.lim 253,cJ 10,cF,.lim 253,cJ 10,cF]),(1,.cells [cI 1]),(0,.cells [cI 1,cI 0,cI 0,cI 0,cI 1,cI 1])],.tup [.sl 5040 0 1 7 none,cI 0],[(5040,.cells [cT,.lim 3,cJ 10,cF,.lim 509,cJ 10,cF])],5327⟩
theorem zxV:zAK Tryz.prog glo 176 zu4:=
 (zAM [(253,[zuw,zux,zuy,zuz,zu0,zu1,zu2,zu3])] (zAD (zAC zxN (zAC zxO (zAC zxP (zAC zxQ (zAC zxR (zAC zxS (zAC zxT (zAC zxU (zAJ _ _ _))))))))) (zAI _ _))).entry 100000 176 zu4 (by kernel_rfl) (by kernel_rfl)
def zvC:ME:=⟨4,[(none,1),(none,2),(none,5),(none,9)],[.agg [cI 1,.sl 0 0 1 6 none,.sl 1 0 1 1 none,cI 1,.v (.slice none 0 0)],.sl 2 0 1 7 none,.agg [cF,.lim 253,cJ 10],.sl 3 0 1 7 none,cI 4,cI 50],[(3,.cells [cT,.lim 3,cJ 10,cF,.lim 509,cJ 10,cF]),(2,.cells [cF,.lim 253,cJ 10,cF,.lim 253,cJ 10,cF]),(1,.cells [cI 1]),(0,.cells [cI 1,cI 0,cI 0,cI 0,cI 1,cI 1])],.sl 1349 0 1 7 none,[(1349,.cells [cF,.lim 253,cJ 10,cF,.lim 253,cJ 9,cF])],1350⟩
theorem zxd:zAK Tryz.prog glo 489 zvC:=
 (zAM [(253,[zts])] (zAD (zAC zvz (zAJ _ _ _)) (zAI _ _))).entry 100000 489 zvC (by kernel_rfl) (by kernel_rfl)
end Go.Proofs.YtngjhigieajkmaaGreatDoor
end
