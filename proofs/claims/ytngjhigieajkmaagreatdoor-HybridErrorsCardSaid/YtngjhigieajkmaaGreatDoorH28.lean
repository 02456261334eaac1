/- Bundle 28: what the law's walk stands on: V6t. -/
import Derived.Test.YtngjhigieajkmaaGreatDoorH23
import Derived.Test.YtngjhigieajkmaaGreatDoorH24
import Derived.Test.YtngjhigieajkmaaGreatDoorH27
set_option maxRecDepth 100000
set_option maxHeartbeats 20000000
set_option linter.all false
noncomputable section
namespace Go.Proofs.YtngjhigieajkmaaGreatDoor
def zdD:ME:=⟨3,[(none,1),(none,2),(none,5)],[.agg [cI 1,.sl 0 0 1 6 none,.sl 1 0 1 1 none,cI 1,.v (.slice none 0 0)],.sl 2 0 1 7 none,.agg [cF,.lim 1,cJ 2],cI 50],[(2,.cells [cF,.lim 1,cJ 0,cF,.lim 1,cJ 0,cF]),(1,.cells [cI 1]),(0,.cells [cI 1,cI 0,cI 0,cI 0,cI 1,cI 1])],.tup [.sl 5040 0 1 7 none,cI 0],[(5040,.cells [cF,.lim 3,cJ 2,cF,.lim 5,cJ 2,cF])],5327⟩
theorem zjO:zAK Tryz.prog glo 176 zdD:=
 (zAM [(253,[zc7,zc8,zc9,zWH,zdA,zWI,zdB,zdC])] (zAD (zAC zjI (zAC zjJ (zAC zjK (zAC zgM (zAC zjL (zAC zgN (zAC zjM (zAC zjN (zAJ _ _ _))))))))) (zAI _ _))).entry 100000 176 zdD (by kernel_rfl) (by kernel_rfl)
def zWL:ME:=⟨3,[(none,1),(none,2),(none,5)],[.agg [cI 1,.sl 0 0 1 6 none,.sl 1 0 1 1 none,cI 1,.v (.slice none 0 0)],.sl 2 0 1 7 none,.agg [cF,.lim 1,cJ 2],cI 50],[(2,.cells [cF,.lim 5,cJ 2,cF,.lim 5,cJ 2,cF]),(1,.cells [cI 1]),(0,.cells [cI 1,cI 0,cI 0,cI 0,cI 1,cI 1])],.tup [.sl 5040 0 1 7 none,cI 0],[(5040,.cells [cF,.lim 1,cJ 0,cF,.lim 3,cJ 1,cF])],5327⟩
theorem zgQ:zAK Tryz.prog glo 176 zWL:=
 (zAM [(253,[zdG,zdH,zdI,zdJ,zWK,zdK,zdL,zdM])] (zAD (zAC zjR (zAC zjS (zAC zjT (zAC zjU (zAC zgP (zAC zjV (zAC zjW (zAC zjX (zAJ _ _ _))))))))) (zAI _ _))).entry 100000 176 zWL (by kernel_rfl) (by kernel_rfl)
def zdW:ME:=⟨3,[(none,1),(none,2),(none,5)],[.agg [cI 1,.sl 0 0 1 6 none,.sl 1 0 1 1 none,cI 1,.v (.slice none 0 0)],.sl 2 0 1 7 none,.agg [cF,.lim 1,cJ 2],cI 50],[(2,.cells [cF,.lim 3,cJ 1,cF,.lim 3,cJ 1,cF]),(1,.cells [cI 1]),(0,.cells [cI 1,cI 0,cI 0,cI 0,cI 1,cI 1])],.tup [.sl 5040 0 1 7 none,cI 0],[(5040,.cells [cF,.lim 5,cJ 2,cF,.lim 7,cJ 2,cF])],5327⟩
theorem zjh:zAK Tryz.prog glo 176 zdW:=
 (zAM [(253,[zdQ,zdR,zWM,zdS,zWN,zdT,zdU,zdV])] (zAD (zAC zjb (zAC zjc (zAC zgR (zAC zjd (zAC zgS (zAC zje (zAC zjf (zAC zjg (zAJ _ _ _))))))))) (zAI _ _))).entry 100000 176 zdW (by kernel_rfl) (by kernel_rfl)
def zwV:ME:=⟨3,[(none,1),(none,2),(none,5)],[.agg [cI 1,.sl 0 0 1 6 none,.sl 1 0 1 1 none,cI 1,.v (.slice none 0 0)],.sl 2 0 1 7 none,.agg [cF,.lim 1,cJ 2],cI 50],[(2,.cells [cF,.lim 7,cJ 2,cF,.lim 7,cJ 2,cF]),(1,.cells [cI 1]),(0,.cells [cI 1,cI 0,cI 0,cI 0,cI 1,cI 1])],.tup [.sl 5040 0 1 7 none,cI 0],[(5040,.cells [cF,.lim 3,cJ 1,cF,.lim 1,cI 0,cF])],5327⟩
theorem zyy:zAK Tryz.prog glo 176 zwV:=
 (zAM [(253,[zdZ,zda,zdb,zWP,zdc,zdd,zde,zf7])] (zAD (zAC zjk (zAC zjl (zAC zjm (zAC zgU (zAC zjn (zAC zjo (zAC zjp (zAC zgV (zAJ _ _ _))))))))) (zAI _ _))).entry 100000 176 zwV (by kernel_rfl) (by kernel_rfl)
end Go.Proofs.YtngjhigieajkmaaGreatDoor
end
