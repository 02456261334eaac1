/- Bundle 21: what the law's walk stands on: T3t. -/
import Derived.Test.YtngjhigieajkmaaGreatDoorH19
import Derived.Test.YtngjhigieajkmaaGreatDoorH20
set_option maxRecDepth 100000
set_option maxHeartbeats 20000000
set_option linter.all false
noncomputable section
namespace Go.Proofs.YtngjhigieajkmaaGreatDoor
open Go.RowKit Pl
section
def zxs:PT (Option zAz):=.nd (some zVL) .lf .lf
def zzS:PT (Option zAz):=.nd none zxs .lf
def zzK:PT (Option zAz):=.nd none zzS .lf
def zxy:PT (Option zAz):=.nd (some zVM) .lf .lf
def zg7:PT (Option zAz):=.nd none .lf zxy
def zgy:PT (Option zAz):=.nd none zg7 .lf
def zgi:PT (Option zAz):=.nd none zzK zgy
def nT7:PT (Option zAz):=.nd none .lf zgi
def zgf:PT (Option zAz):=.nd (some zNv) .lf .lf
def zxw:PT (Option zAz):=.nd (some zKl) .lf .lf
def zxo:PT (Option zAz):=.nd none zxw .lf
def zzM:PT (Option zAz):=.nd none .lf zxo
def zzF:PT (Option zAz):=.nd none zzM .lf
def zgX:PT (Option zAz):=.nd none zgf zzF
def nT3:PT (Option zAz):=.nd none nT7 zgX
def zUW:PT (Option zAz):=.nd (some zT5) .lf .lf
def zgt:PT (Option zAz):=.nd none .lf zUW
def zgd:PT (Option zAz):=.nd none .lf zgt
def zxn:PT (Option zAz):=.nd (some zLD) .lf .lf
def zzL:PT (Option zAz):=.nd none .lf zxn
def zxz:PT (Option zAz):=.nd (some zRI) .lf .lf
def zzV:PT (Option zAz):=.nd none .lf zxz
def zx2:PT (Option zAz):=.nd (some zT3) .lf .lf
def zxq:PT (Option zAz):=.nd none .lf zx2
def zzP:PT (Option zAz):=.nd none zzV zxq
def zgk:PT (Option zAz):=.nd none zzL zzP
def nT9:PT (Option zAz):=.nd none zgd zgk
def zx0:PT (Option zAz):=.nd (some zVI) .lf .lf
def zxl:PT (Option zAz):=.nd none .lf zx0
def zzI:PT (Option zAz):=.nd none .lf zxl
def zgh:PT (Option zAz):=.nd (some zT2) zzI .lf
def zxt:PT (Option zAz):=.nd (some zRb) .lf .lf
def zzT:PT (Option zAz):=.nd (some zT6) zxt .lf
def zzN:PT (Option zAz):=.nd none zzT .lf
def zzH:PT (Option zAz):=.nd none zzN .lf
def zgZ:PT (Option zAz):=.nd none zgh zzH
def nT5:PT (Option zAz):=.nd none nT9 zgZ
def nT1:PT (Option zAz):=.nd none nT3 nT5
def zU0:PT (Option zAz):=.nd (some zH5) .lf .lf
def zg8:PT (Option zAz):=.nd none .lf zU0
def zgz:PT (Option zAz):=.nd none zg8 .lf
def zgj:PT (Option zAz):=.nd none .lf zgz
def nT8:PT (Option zAz):=.nd none .lf zgj
def zxp:PT (Option zAz):=.nd (some zT1) .lf .lf
def zgw:PT (Option zAz):=.nd none .lf zxp
def zgg:PT (Option zAz):=.nd (some zRJ) .lf zgw
def zzW:PT (Option zAz):=.nd (some zOa) .lf .lf
def zzQ:PT (Option zAz):=.nd none zzW .lf
def zzG:PT (Option zAz):=.nd none .lf zzQ
def zgY:PT (Option zAz):=.nd none zgg zzG
def nT4:PT (Option zAz):=.nd none nT8 zgY
def zxx:PT (Option zAz):=.nd (some zT0) .lf .lf
def zUY:PT (Option zAz):=.nd none zxx .lf
def zgu:PT (Option zAz):=.nd none .lf zUY
def zge:PT (Option zAz):=.nd none .lf zgu
def zg9:PT (Option zAz):=.nd (some zNu) .lf .lf
def zg0:PT (Option zAz):=.nd (some zT4) zg9 .lf
def zgl:PT (Option zAz):=.nd none .lf zg0
def zgW:PT (Option zAz):=.nd none zge zgl
def zxr:PT (Option zAz):=.nd (some zVK) .lf .lf
def zzR:PT (Option zAz):=.nd none zxr .lf
def zx1:PT (Option zAz):=.nd (some zVN) .lf .lf
def zxm:PT (Option zAz):=.nd none .lf zx1
def zzJ:PT (Option zAz):=.nd none zzR zxm
def zzE:PT (Option zAz):=.nd none zzJ .lf
def zxu:PT (Option zAz):=.nd (some zH5) .lf .lf
def zzU:PT (Option zAz):=.nd (some zVJ) zxu .lf
def zzO:PT (Option zAz):=.nd none zzU .lf
def zxv:PT (Option zAz):=.nd (some zsX) .lf .lf
def zzX:PT (Option zAz):=.nd (some zSD) zxv .lf
def zg1:PT (Option zAz):=.nd none zzX .lf
def zgm:PT (Option zAz):=.nd none zzO zg1
def zga:PT (Option zAz):=.nd none zzE zgm
def nT6:PT (Option zAz):=.nd none zgW zga
def nT2:PT (Option zAz):=.nd none nT4 nT6
def nT0:PT (Option zAz):=.nd none nT1 nT2
end
theorem nn {f:Nat}:∀b:zAz,none=some b->zAF f b:=zAO (Q:=zAF)
theorem zjq:zBF zAF nT0 1 0:=⟨nn,⟨nn,⟨nn,⟨nn,trivial,⟨nn,⟨nn,⟨nn,⟨zAg (Q:=zAF) zSw,trivial,trivial⟩,trivial⟩,trivial⟩,⟨nn,⟨nn,trivial,⟨zAg (Q:=zAF) zSx,trivial,trivial⟩⟩,trivial⟩⟩⟩,⟨nn,⟨zAg (Q:=zAF) zOY,trivial,trivial⟩,⟨nn,⟨nn,trivial,⟨nn,⟨zAg (Q:=zAF) zOX,trivial,trivial⟩,trivial⟩⟩,trivial⟩⟩⟩,⟨nn,⟨nn,⟨nn,trivial,⟨nn,trivial,⟨zAg (Q:=zAF) zSr,trivial,trivial⟩⟩⟩,⟨nn,⟨nn,trivial,⟨zAg (Q:=zAF) zOZ,trivial,trivial⟩⟩,⟨nn,⟨nn,trivial,⟨zAg (Q:=zAF) zQW,trivial,trivial⟩⟩,⟨nn,trivial,⟨zAg (Q:=zAF) zSp,trivial,trivial⟩⟩⟩⟩⟩,⟨nn,⟨zAg (Q:=zAF) zSn,⟨nn,trivial,⟨nn,trivial,⟨zAg (Q:=zAF) zSt,trivial,trivial⟩⟩⟩,trivial⟩,⟨nn,⟨nn,⟨zAg (Q:=zAF) zSs,⟨zAg (Q:=zAF) zQZ,trivial,trivial⟩,trivial⟩,trivial⟩,trivial⟩⟩⟩⟩,⟨nn,⟨nn,⟨nn,trivial,⟨nn,trivial,⟨nn,⟨nn,trivial,⟨zAg (Q:=zAF) zQa,trivial,trivial⟩⟩,trivial⟩⟩⟩,⟨nn,⟨zAg (Q:=zAF) zQY,trivial,⟨nn,trivial,⟨zAg (Q:=zAF) zSm,trivial,trivial⟩⟩⟩,⟨nn,trivial,⟨nn,⟨zAg (Q:=zAF) zQc,trivial,trivial⟩,trivial⟩⟩⟩⟩,⟨nn,⟨nn,⟨nn,trivial,⟨nn,trivial,⟨nn,⟨zAg (Q:=zAF) zSl,trivial,trivial⟩,trivial⟩⟩⟩,⟨nn,trivial,⟨zAg (Q:=zAF) zSq,⟨zAg (Q:=zAF) zQX,trivial,trivial⟩,trivial⟩⟩⟩,⟨nn,⟨nn,⟨nn,⟨nn,⟨zAg (Q:=zAF) zSv,trivial,trivial⟩,trivial⟩,⟨nn,trivial,⟨zAg (Q:=zAF) zSy,trivial,trivial⟩⟩⟩,trivial⟩,⟨nn,⟨nn,⟨zAg (Q:=zAF) zSu,⟨zAg (Q:=zAF) zQb,trivial,trivial⟩,trivial⟩,trivial⟩,⟨nn,⟨zAg (Q:=zAF) zSo,⟨zAg (Q:=zAF) ztR,trivial,trivial⟩,trivial⟩,trivial⟩⟩⟩⟩⟩⟩
theorem zQd (f:Nat) (nf:zAz) (h:PT.get none nT0 f=some nf):zAF f nf:=by
 have:=zEp zjq f nf h
 rwa [Nat.one_mul,Nat.zero_add] at this
def zNy (M:List (Nat×List ME)):Big:=⟨E0,fT0,nT0,M⟩
theorem zAM (M:List (Nat×List ME)) (hM:∀p∈M,∀e∈p.2,zAK Tryz.prog glo p.1 e):zGQ Tryz.prog glo (zNy M) where
 mix:=by kernel_rfl
 ti:=zPW
 fn:=zSJ
 nat:=zQd
 memo:=hM
end Go.Proofs.YtngjhigieajkmaaGreatDoor
end
