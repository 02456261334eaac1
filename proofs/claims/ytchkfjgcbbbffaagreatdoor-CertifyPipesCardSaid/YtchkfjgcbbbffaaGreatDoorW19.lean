/- Bundle 19: what the law's walk stands on: T3t. -/
import Derived.Test.YtchkfjgcbbbffaaGreatDoorW8
import Derived.Test.YtchkfjgcbbbffaaGreatDoorW18
set_option maxRecDepth 100000
set_option maxHeartbeats 20000000
set_option linter.all false
noncomputable section
namespace Go.Proofs.YtchkfjgcbbbffaaGreatDoor
open Go.RowKit Pl
def zUg:PT (Option zAz):=.nd (some zVJ) .lf .lf
def zg2:PT (Option zAz):=.nd none zUg .lf
def zgn:PT (Option zAz):=.nd none zg2 .lf
def zUm:PT (Option zAz):=.nd (some zLD) .lf .lf
def zUS:PT (Option zAz):=.nd (some zT4) zUm .lf
def zgr:PT (Option zAz):=.nd (some zNv) .lf zUS
def zgb:PT (Option zAz):=.nd none zgn zgr
def zVC:PT (Option zAz):=.nd (some zRI) .lf .lf
def zUi:PT (Option zAz):=.nd none zVC .lf
def zg7:PT (Option zAz):=.nd none zUi .lf
def zUq:PT (Option zAz):=.nd (some zVN) .lf .lf
def zUc:PT (Option zAz):=.nd none zUq .lf
def zgy:PT (Option zAz):=.nd none zg7 zUc
def zgi:PT (Option zAz):=.nd none .lf zgy
def nT7:PT (Option zAz):=.nd none zgb zgi
def zUs:PT (Option zAz):=.nd (some zH5) .lf .lf
def zg3:PT (Option zAz):=.nd none .lf zUs
def zU4:PT (Option zAz):=.nd (some zT0) .lf .lf
def zhA:PT (Option zAz):=.nd (some zSD) .lf zU4
def zgo:PT (Option zAz):=.nd none zg3 zhA
def zUy:PT (Option zAz):=.nd (some zKl) .lf .lf
def zg6:PT (Option zAz):=.nd none .lf zUy
def zgv:PT (Option zAz):=.nd none zg6 .lf
def zgf:PT (Option zAz):=.nd none zgo zgv
def zgX:PT (Option zAz):=.nd none zgf .lf
def nT3:PT (Option zAz):=.nd none nT7 zgX
def zU8:PT (Option zAz):=.nd (some zH5) .lf .lf
def zUW:PT (Option zAz):=.nd none .lf zU8
def zgt:PT (Option zAz):=.nd none .lf zUW
def zgd:PT (Option zAz):=.nd none .lf zgt
def zgk:PT (Option zAz):=.nd (some zT2) .lf .lf
def nT9:PT (Option zAz):=.nd none zgd zgk
def zUo:PT (Option zAz):=.nd (some zVI) .lf .lf
def zUa:PT (Option zAz):=.nd none zUo .lf
def zgx:PT (Option zAz):=.nd (some zT1) .lf zUa
def zgh:PT (Option zAz):=.nd none .lf zgx
def zgZ:PT (Option zAz):=.nd none zgh .lf
def nT5:PT (Option zAz):=.nd none nT9 zgZ
def nT1:PT (Option zAz):=.nd none nT3 nT5
def zU6:PT (Option zAz):=.nd (some zVM) .lf .lf
def zUU:PT (Option zAz):=.nd none .lf zU6
def zgs:PT (Option zAz):=.nd (some zRJ) .lf zUU
def zgc:PT (Option zAz):=.nd none .lf zgs
def zVE:PT (Option zAz):=.nd (some zT3) .lf .lf
def zUk:PT (Option zAz):=.nd none zVE .lf
def zU0:PT (Option zAz):=.nd (some zNu) .lf .lf
def zg8:PT (Option zAz):=.nd none zUk zU0
def zgz:PT (Option zAz):=.nd none zg8 .lf
def zgj:PT (Option zAz):=.nd none .lf zgz
def nT8:PT (Option zAz):=.nd none zgc zgj
def zUu:PT (Option zAz):=.nd (some zVL) .lf .lf
def zg4:PT (Option zAz):=.nd none .lf zUu
def zgp:PT (Option zAz):=.nd none zg4 .lf
def zgw:PT (Option zAz):=.nd (some zT5) .lf .lf
def zgg:PT (Option zAz):=.nd none zgp zgw
def zgY:PT (Option zAz):=.nd none zgg .lf
def nT4:PT (Option zAz):=.nd none nT8 zgY
def zVA:PT (Option zAz):=.nd (some zRb) .lf .lf
def zUY:PT (Option zAz):=.nd none .lf zVA
def zgu:PT (Option zAz):=.nd none .lf zUY
def zge:PT (Option zAz):=.nd none .lf zgu
def zVG:PT (Option zAz):=.nd (some zVK) .lf .lf
def zUw:PT (Option zAz):=.nd none zVG .lf
def zg5:PT (Option zAz):=.nd none .lf zUw
def zgq:PT (Option zAz):=.nd none zg5 .lf
def zU2:PT (Option zAz):=.nd (some zOa) .lf .lf
def zg9:PT (Option zAz):=.nd none .lf zU2
def zg0:PT (Option zAz):=.nd none zg9 .lf
def zgl:PT (Option zAz):=.nd none zgq zg0
def zgW:PT (Option zAz):=.nd none zge zgl
def zUe:PT (Option zAz):=.nd (some zT6) .lf .lf
def zg1:PT (Option zAz):=.nd none .lf zUe
def zgm:PT (Option zAz):=.nd none .lf zg1
def zga:PT (Option zAz):=.nd none .lf zgm
def nT6:PT (Option zAz):=.nd none zgW zga
def nT2:PT (Option zAz):=.nd none nT4 nT6
def nT0:PT (Option zAz):=.nd none nT1 nT2
theorem zUh:zBF zAF zUg 128 127:=⟨zAg (Q:=zAF) zSu,trivial,trivial⟩
theorem zeB:zBF zAF zg2 64 63:=⟨zAO (Q:=zAF),zUh,trivial⟩
theorem zdw:zBF zAF zgn 32 31:=⟨zAO (Q:=zAF),zeB,trivial⟩
theorem zUn:zBF zAF zUm 128 175:=⟨zAg (Q:=zAF) zOZ,trivial,trivial⟩
theorem zUT:zBF zAF zUS 64 111:=⟨zAg (Q:=zAF) zSq,zUn,trivial⟩
theorem zd0:zBF zAF zgr 32 47:=⟨zAg (Q:=zAF) zOY,trivial,zUT⟩
theorem zdk:zBF zAF zgb 16 15:=⟨zAO (Q:=zAF),zdw,zd0⟩
theorem zVD:zBF zAF zVC 256 279:=⟨zAg (Q:=zAF) zQW,trivial,trivial⟩
theorem zUj:zBF zAF zUi 128 151:=⟨zAO (Q:=zAF),zVD,trivial⟩
theorem zeG:zBF zAF zg7 64 87:=⟨zAO (Q:=zAF),zUj,trivial⟩
theorem zUr:zBF zAF zUq 128 183:=⟨zAg (Q:=zAF) zSy,trivial,trivial⟩
theorem zUd:zBF zAF zUc 64 119:=⟨zAO (Q:=zAF),zUr,trivial⟩
theorem zd7:zBF zAF zgy 32 55:=⟨zAO (Q:=zAF),zeG,zUd⟩
theorem zdr:zBF zAF zgi 16 23:=⟨zAO (Q:=zAF),trivial,zd7⟩
theorem zjx:zBF zAF nT7 8 7:=⟨zAO (Q:=zAF),zdk,zdr⟩
theorem zUt:zBF zAF zUs 128 195:=⟨zAg (Q:=zAF) zQb,trivial,trivial⟩
theorem zeC:zBF zAF zg3 64 67:=⟨zAO (Q:=zAF),trivial,zUt⟩
theorem zU5:zBF zAF zU4 128 227:=⟨zAg (Q:=zAF) zSl,trivial,trivial⟩
theorem zeJ:zBF zAF zhA 64 99:=⟨zAg (Q:=zAF) zSo,trivial,zU5⟩
theorem zdx:zBF zAF zgo 32 35:=⟨zAO (Q:=zAF),zeC,zeJ⟩
theorem zUz:zBF zAF zUy 128 211:=⟨zAg (Q:=zAF) zOX,trivial,trivial⟩
theorem zeF:zBF zAF zg6 64 83:=⟨zAO (Q:=zAF),trivial,zUz⟩
theorem zd4:zBF zAF zgv 32 51:=⟨zAO (Q:=zAF),zeF,trivial⟩
theorem zdo:zBF zAF zgf 16 19:=⟨zAO (Q:=zAF),zdx,zd4⟩
theorem zdg:zBF zAF zgX 8 11:=⟨zAO (Q:=zAF),zdo,trivial⟩
theorem zjt:zBF zAF nT3 4 3:=⟨zAO (Q:=zAF),zjx,zdg⟩
theorem zU9:zBF zAF zU8 128 241:=⟨zAg (Q:=zAF) zQa,trivial,trivial⟩
theorem zUX:zBF zAF zUW 64 113:=⟨zAO (Q:=zAF),trivial,zU9⟩
theorem zd2:zBF zAF zgt 32 49:=⟨zAO (Q:=zAF),trivial,zUX⟩
theorem zdm:zBF zAF zgd 16 17:=⟨zAO (Q:=zAF),trivial,zd2⟩
theorem zdt:zBF zAF zgk 16 25:=⟨zAg (Q:=zAF) zSn,trivial,trivial⟩
theorem zjz:zBF zAF nT9 8 9:=⟨zAO (Q:=zAF),zdm,zdt⟩
theorem zUp:zBF zAF zUo 128 181:=⟨zAg (Q:=zAF) zSt,trivial,trivial⟩
theorem zUb:zBF zAF zUa 64 117:=⟨zAO (Q:=zAF),zUp,trivial⟩
theorem zd6:zBF zAF zgx 32 53:=⟨zAg (Q:=zAF) zSm,trivial,zUb⟩
theorem zdq:zBF zAF zgh 16 21:=⟨zAO (Q:=zAF),trivial,zd6⟩
theorem zdi:zBF zAF zgZ 8 13:=⟨zAO (Q:=zAF),zdq,trivial⟩
theorem zjv:zBF zAF nT5 4 5:=⟨zAO (Q:=zAF),zjz,zdi⟩
theorem zjr:zBF zAF nT1 2 1:=⟨zAO (Q:=zAF),zjt,zjv⟩
theorem zU7:zBF zAF zU6 128 240:=⟨zAg (Q:=zAF) zSx,trivial,trivial⟩
theorem zUV:zBF zAF zUU 64 112:=⟨zAO (Q:=zAF),trivial,zU7⟩
theorem zd1:zBF zAF zgs 32 48:=⟨zAg (Q:=zAF) zQY,trivial,zUV⟩
theorem zdl:zBF zAF zgc 16 16:=⟨zAO (Q:=zAF),trivial,zd1⟩
theorem zVF:zBF zAF zVE 256 280:=⟨zAg (Q:=zAF) zSp,trivial,trivial⟩
theorem zUl:zBF zAF zUk 128 152:=⟨zAO (Q:=zAF),zVF,trivial⟩
theorem zU1:zBF zAF zU0 128 216:=⟨zAg (Q:=zAF) zQX,trivial,trivial⟩
theorem zeH:zBF zAF zg8 64 88:=⟨zAO (Q:=zAF),zUl,zU1⟩
theorem zd8:zBF zAF zgz 32 56:=⟨zAO (Q:=zAF),zeH,trivial⟩
theorem zds:zBF zAF zgj 16 24:=⟨zAO (Q:=zAF),trivial,zd8⟩
theorem zjy:zBF zAF nT8 8 8:=⟨zAO (Q:=zAF),zdl,zds⟩
theorem zUv:zBF zAF zUu 128 196:=⟨zAg (Q:=zAF) zSw,trivial,trivial⟩
theorem zeD:zBF zAF zg4 64 68:=⟨zAO (Q:=zAF),trivial,zUv⟩
theorem zdy:zBF zAF zgp 32 36:=⟨zAO (Q:=zAF),zeD,trivial⟩
theorem zd5:zBF zAF zgw 32 52:=⟨zAg (Q:=zAF) zSr,trivial,trivial⟩
theorem zdp:zBF zAF zgg 16 20:=⟨zAO (Q:=zAF),zdy,zd5⟩
theorem zdh:zBF zAF zgY 8 12:=⟨zAO (Q:=zAF),zdp,trivial⟩
theorem zju:zBF zAF nT4 4 4:=⟨zAO (Q:=zAF),zjy,zdh⟩
theorem zVB:zBF zAF zVA 128 242:=⟨zAg (Q:=zAF) zQZ,trivial,trivial⟩
theorem zUZ:zBF zAF zUY 64 114:=⟨zAO (Q:=zAF),trivial,zVB⟩
theorem zd3:zBF zAF zgu 32 50:=⟨zAO (Q:=zAF),trivial,zUZ⟩
theorem zdn:zBF zAF zge 16 18:=⟨zAO (Q:=zAF),trivial,zd3⟩
theorem zVH:zBF zAF zVG 256 330:=⟨zAg (Q:=zAF) zSv,trivial,trivial⟩
theorem zUx:zBF zAF zUw 128 202:=⟨zAO (Q:=zAF),zVH,trivial⟩
theorem zeE:zBF zAF zg5 64 74:=⟨zAO (Q:=zAF),trivial,zUx⟩
theorem zdz:zBF zAF zgq 32 42:=⟨zAO (Q:=zAF),zeE,trivial⟩
theorem zU3:zBF zAF zU2 128 218:=⟨zAg (Q:=zAF) zQc,trivial,trivial⟩
theorem zeI:zBF zAF zg9 64 90:=⟨zAO (Q:=zAF),trivial,zU3⟩
theorem zd9:zBF zAF zg0 32 58:=⟨zAO (Q:=zAF),zeI,trivial⟩
theorem zdu:zBF zAF zgl 16 26:=⟨zAO (Q:=zAF),zdz,zd9⟩
theorem zdf:zBF zAF zgW 8 10:=⟨zAO (Q:=zAF),zdn,zdu⟩
theorem zUf:zBF zAF zUe 64 126:=⟨zAg (Q:=zAF) zSs,trivial,trivial⟩
theorem zeA:zBF zAF zg1 32 62:=⟨zAO (Q:=zAF),trivial,zUf⟩
theorem zdv:zBF zAF zgm 16 30:=⟨zAO (Q:=zAF),trivial,zeA⟩
theorem zdj:zBF zAF zga 8 14:=⟨zAO (Q:=zAF),trivial,zdv⟩
theorem zjw:zBF zAF nT6 4 6:=⟨zAO (Q:=zAF),zdf,zdj⟩
theorem zjs:zBF zAF nT2 2 2:=⟨zAO (Q:=zAF),zju,zjw⟩
theorem zjq:zBF zAF nT0 1 0:=⟨zAO (Q:=zAF),zjr,zjs⟩
theorem zQd (f:Nat) (nf:zAz) (h:PT.get none nT0 f=some nf):zAF f nf:=by
 have:=zEp zjq f nf h
 rwa [Nat.one_mul,Nat.zero_add] at this
def zNy (M:List (Nat×List ME)):Big:=⟨E0,fT0,nT0,M⟩
theorem zAM (M:List (Nat×List ME)) (hM:∀p∈M,∀e∈p.2,zAK Tryz.prog glo p.1 e):zGQ Tryz.prog glo (zNy M) where
 mix:=by kernel_rfl
 ti:=zPW
 fn:=zSJ
 nat:=zQd
 memo:=hM
end Go.Proofs.YtchkfjgcbbbffaaGreatDoor
end
