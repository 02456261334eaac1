/- Bundle 11: what the law's walk stands on: S29, S30, S31, S32, S33, S34, S35. -/
import Derived.Deep.RegionHeld3
import Derived.BigQuiet
import Derived.Deep.DeepCutAuto
import Derived.Test.YtchkfjgcbbbffaaGreatDoorW9
import Derived.Test.YtchkfjgcbbbffaaGreatDoorW10
set_option maxRecDepth 100000
set_option maxHeartbeats 20000000
set_option linter.all false
noncomputable section
namespace Go.Proofs.YtchkfjgcbbbffaaGreatDoor
open Go.RowKit Pl Go.Shelf
structure Sg where
 a:Dy
 b:Dy
 tube:List Iv
 e:List Iv
def RG (W:World) (vs:List Value) (x:Sg):Prop:=∃A n c B m d C p q D r s,vs=[.bool x.a.neg,.slice A n c,.int .i64 x.a.e,.bool x.b.neg,.slice B m d,.int .i64 x.b.e,.slice C p q,.slice D r s]/\SL W A n c x.a.l/\SL W B m d x.b.l/\Sl 7 RI W C p q x.tube/\Sl 7 RI W D r s x.e
theorem zln:zJM RG:=by
 rintro W W' vs x ⟨A,n,c,B,m,d,C,p,q,D,r,s,e,h1,h2,h3,h4⟩ hb
 exact ⟨A,n,c,B,m,d,C,p,q,D,r,s,e,h1.below hb,h2.below hb,h3.next zAX hb,h4.next zAX hb⟩
theorem zoB (p:(List Iv)->Bool) (g:Nat) (lb:Array Value) (A:Option Addr) (n c:Nat) (xs:List (List Iv)) (w:World) (h:Sl 1 RB1 w A n c xs)
  (eg:∀args W,(callFunc g args).run Tryz.prog W=.ok (.enter g args) W)
  (hp:∀W vs x,Below w.heap.size w W->x∈xs->RB1 W vs x->Calls Tryz.prog g (#[(vs[0]?).getD undef]++lb) W (zBW (p x) W)) :
  Calls Tryz.prog 194 #[.slice A n c,.func (.func g) #[] lb] w (zVv (xs.any p) w):=by
 have hn:=h.cap;have hm:=h.max;have HL:=Zh h.len;have HS:=Zh h;have HP:=Zh hp;clear h hp;go_enter Tryz.func194,Tryz.ntmps194
 go_wp2_with fail
 go_loopw [8] (fun i wr=>∃j:Nat,j<=n/\i=.int .i64 j/\Hid (∀m x,m<j->xs[m]? = some x->p x=false)/\Below w.heap.size w wr) (fun i _=>n - (intOf i).toNat)
 case atStart=>exact ⟨0,Nat.zero_le _,rfl,fun m x hm=>absurd hm (by omega),Yp _ _⟩
 case round=>
  obtain ⟨j,hj,rfl,HZ,hb⟩:=hrel;by_cases hlt:j<n
  ·obtain ⟨b,off,x,vs,rfl,hbl,hx,hk,hR,hc⟩:=HS.out.get hlt
   have hcall:=HP.out wr vs x hb (Yk hx) (zml _ _ _ _ hR hb);obtain ⟨A1,n1,c1,rfl,hs1⟩:=hR;have qt:=hc 0 _ rfl;rw [Nat.mul_one,Nat.add_zero] at qt;have q0:=(hb.cell (p:=⟨b,off+j,none⟩) hbl).trans qt;have HX:=Zh hx;clear hx hc hk HP HS qt;cases hq:p x
   ·rw [hq] at hcall
    have HQ:=Zh hq;clear hq
    go_wp2_with (go_at_fn g;refine hcall.mono ?_;rintro e w' ⟨rfl,hb'⟩)
    go_roundw
    case rel=>exact ⟨j+1,by omega,by go_num,fun m y hm hy=>by
     by_cases hmj:m<j
     ·exact HZ.out m y hmj hy
     ·obtain rfl:m=j:=by omega
      rw [HX.out] at hy;injection hy with hy
      rw [<- hy];exact HQ.out,zAt hb hb' (Ya _)⟩
    case measure=>simp [intOf];omega
   ·rw [hq] at hcall
    have HQ:=Zh hq;clear hq
    go_wp2_with (go_at_fn g;refine hcall.mono ?_;rintro e w' ⟨rfl,hb'⟩)
    go_ret;refine ⟨_,rfl,?_,zAt hb hb' (Ya _)⟩;rw [zBC p xs j x HX.out HQ.out];simp
  ·go_wp2_with fail
   go_ret;refine ⟨_,rfl,?_,hb⟩;rw [zEN p xs (fun m x hx=>HZ.out m x (by
    have:=(Yb.1 hx).1;have:=HL.out;omega) hx)]
   simp
theorem znF (p:(List Iv)->Bool) (g:Nat) (lb:Array Value) (A:Option Addr) (n c:Nat) (xs:List (List Iv)) (w:World) (h:Sl 1 RB1 w A n c xs)
  (eg:∀args W,(callFunc g args).run Tryz.prog W=.ok (.enter g args) W)
  (hp:∀W vs x,Below w.heap.size w W->x∈xs->RB1 W vs x->Calls Tryz.prog g (#[(vs[0]?).getD undef]++lb) W (zBW (p x) W)) :
  Calls Tryz.prog 123 #[.slice A n c,.func (.func g) #[] lb] w (zBW (xs.any p) w):=by
 have HC:=Zh (zoB p g lb A n c xs w h eg hp);clear h hp;go_enter Tryz.func123,Tryz.ntmps123
 go_wp2_with fail
 refine HC.out.mono ?_;rintro e w' ⟨r,rfl,hr,hb⟩
 have HR:=Zh hr;clear hr HC;go_wp2_with fail
 go_ret;exact ⟨by rw [<- HR.out];rfl,hb⟩
theorem zoC (p:Fr->Bool) (g:Nat) (lb:Array Value) (A:Option Addr) (n c:Nat) (xs:List Fr) (w:World) (h:Sl 3 RF w A n c xs)
  (eg:∀args W,(callFunc g args).run Tryz.prog W=.ok (.enter g args) W)
  (hp:∀W vs x,Below w.heap.size w W->x∈xs->RF W vs x->Calls Tryz.prog g (#[.agg vs.toArray]++lb) W (zBW (p x) W)) :
  Calls Tryz.prog 193 #[.slice A n c,.func (.func g) #[] lb] w (zVv (xs.any p) w):=by
 have hn:=h.cap;have hm:=h.max;have HL:=Zh h.len;have HS:=Zh h;have HP:=Zh hp;clear h hp;go_enter Tryz.func193,Tryz.ntmps193
 go_wp2_with fail
 go_loopw [8] (fun i wr=>∃j:Nat,j<=n/\i=.int .i64 j/\Hid (∀m x,m<j->xs[m]? = some x->p x=false)/\Below w.heap.size w wr) (fun i _=>n - (intOf i).toNat)
 case atStart=>exact ⟨0,Nat.zero_le _,rfl,fun m x hm=>absurd hm (by omega),Yp _ _⟩
 case round=>
  obtain ⟨j,hj,rfl,HZ,hb⟩:=hrel;by_cases hlt:j<n
  ·obtain ⟨b,off,x,vs,rfl,hbl,hx,hk,hR,hc⟩:=HS.out.get hlt
   have hcall:=HP.out wr vs x hb (Yk hx) (zBs _ _ _ _ hR hb);obtain ⟨A1,n1,c1,A2,n2,c2,A3,n3,c3,rfl,hs1,hs2,hs3⟩:=hR;have q0:=(hb.cell (p:=⟨b,off+j*3,none⟩) hbl).trans (hc 0 _ rfl);have q1:=(hb.cell (p:=⟨b,off+j*3+1,none⟩) hbl).trans (hc 1 _ rfl);have q2:=(hb.cell (p:=⟨b,off+j*3+2,none⟩) hbl).trans (hc 2 _ rfl);have HX:=Zh hx;clear hx hc hk HP HS;cases hq:p x
   ·rw [hq] at hcall
    have HQ:=Zh hq;clear hq
    go_wp2_with (go_at_fn g;refine hcall.mono ?_;rintro e w' ⟨rfl,hb'⟩)
    go_roundw
    case rel=>exact ⟨j+1,by omega,by go_num,fun m y hm hy=>by
     by_cases hmj:m<j
     ·exact HZ.out m y hmj hy
     ·obtain rfl:m=j:=by omega
      rw [HX.out] at hy;injection hy with hy
      rw [<- hy];exact HQ.out,zAt hb hb' (Ya _)⟩
    case measure=>simp [intOf];omega
   ·rw [hq] at hcall
    have HQ:=Zh hq;clear hq
    go_wp2_with (go_at_fn g;refine hcall.mono ?_;rintro e w' ⟨rfl,hb'⟩)
    go_ret;refine ⟨_,rfl,?_,zAt hb hb' (Ya _)⟩;rw [zBC p xs j x HX.out HQ.out];simp
  ·go_wp2_with fail
   go_ret;refine ⟨_,rfl,?_,hb⟩;rw [zEN p xs (fun m x hx=>HZ.out m x (by
    have:=(Yb.1 hx).1;have:=HL.out;omega) hx)]
   simp
theorem zna (p:Fr->Bool) (g:Nat) (lb:Array Value) (A:Option Addr) (n c:Nat) (xs:List Fr) (w:World) (h:Sl 3 RF w A n c xs)
  (eg:∀args W,(callFunc g args).run Tryz.prog W=.ok (.enter g args) W)
  (hp:∀W vs x,Below w.heap.size w W->x∈xs->RF W vs x->Calls Tryz.prog g (#[.agg vs.toArray]++lb) W (zBW (p x) W)) :
  Calls Tryz.prog 120 #[.slice A n c,.func (.func g) #[] lb] w (zBW (xs.any p) w):=by
 have HC:=Zh (zoC p g lb A n c xs w h eg hp);clear h hp;go_enter Tryz.func120,Tryz.ntmps120
 go_wp2_with fail
 refine HC.out.mono ?_;rintro e w' ⟨r,rfl,hr,hb⟩
 have HR:=Zh hr;clear hr HC;go_wp2_with fail
 go_ret;exact ⟨by rw [<- HR.out];rfl,hb⟩
theorem zoA (q:Sg->Sg->Bool) (g:Nat) (lb:Array Value) (A B:Option Addr) (n c m d:Nat) (xs ys:List Sg) (w:World) (h:Sl 8 RG w A n c xs) (h':Sl 8 RG w B m d ys)
  (eg:∀args W,(callFunc g args).run Tryz.prog W=.ok (.enter g args) W)
  (hp:∀W vs us x y,Below w.heap.size w W->x∈xs->y∈ys->RG W vs x->RG W us y->Calls Tryz.prog g (#[.agg vs.toArray,.agg us.toArray]++lb) W (zBW (q x y) W)) :
  Calls Tryz.prog 23 #[.slice A n c,.slice B m d,.func (.func g) #[] lb] w (zBW (eqF q xs ys) w):=by
 have hn:=h.cap;have hm:=h.max;have hn':=h'.cap;have hm':=h'.max;have HL:=Zh h.len;have HL':=Zh h'.len;have HS:=Zh h;have HS':=Zh h';have HP:=Zh hp;clear h h' hp;by_cases hnm:n=m
 ·subst hnm
  go_enter Tryz.func23,Tryz.ntmps23
  go_wp2_with fail
  go_loopw [17] (fun i wr=>∃j:Nat,j<=n/\i=.int .i64 j/\Hid (∀m x y,m<j->xs[m]? = some x->ys[m]? = some y->q x y=true)/\Below w.heap.size w wr) (fun i _=>n - (intOf i).toNat)
  case atStart=>exact ⟨0,Nat.zero_le _,rfl,fun m x y hm=>absurd hm (by omega),Yp _ _⟩
  case round=>
   obtain ⟨j,hj,rfl,HZ,hb⟩:=hrel;by_cases hlt:j<n
   ·obtain ⟨b,off,x,vs,rfl,hbl,hx,hk,hR,hc⟩:=HS.out.get hlt
    obtain ⟨b',off',y,us,rfl,hbl',hy,hk',hR',hc'⟩:=HS'.out.get hlt;have hRx:=zln _ _ _ _ hR hb;have hRy:=zln _ _ _ _ hR' hb;have hcall:=fun W (hW:Below wr.heap.size wr W)=>HP.out W vs us x y (zAt hb hW (Ya _)) (Yk hx) (Yk hy) (zln _ _ _ _ hRx hW) (zln _ _ _ _ hRy hW)
    obtain ⟨A1,n1,c1,A2,n2,c2,A3,n3,c3,A4,n4,c4,rfl,hs1,hs2,hs3,hs4⟩:=hR;obtain ⟨Ax1,nx1,cx1,Ax2,nx2,cx2,Ax3,nx3,cx3,Ax4,nx4,cx4,rfl,hx1,hx2,hx3,hx4⟩:=hR';have q0:=(hb.cell (p:=⟨b,off+j*8,none⟩) hbl).trans (hc 0 _ rfl);have q1:=(hb.cell (p:=⟨b,off+j*8+1,none⟩) hbl).trans (hc 1 _ rfl);have q2:=(hb.cell (p:=⟨b,off+j*8+2,none⟩) hbl).trans (hc 2 _ rfl);have q3:=(hb.cell (p:=⟨b,off+j*8+3,none⟩) hbl).trans (hc 3 _ rfl);have q4:=(hb.cell (p:=⟨b,off+j*8+4,none⟩) hbl).trans (hc 4 _ rfl);have q5:=(hb.cell (p:=⟨b,off+j*8+5,none⟩) hbl).trans (hc 5 _ rfl);have q6:=(hb.cell (p:=⟨b,off+j*8+6,none⟩) hbl).trans (hc 6 _ rfl);have q7:=(hb.cell (p:=⟨b,off+j*8+7,none⟩) hbl).trans (hc 7 _ rfl);have r0:=(hb.cell (p:=⟨b',off' + j*8,none⟩) hbl').trans (hc' 0 _ rfl);have r1:=(hb.cell (p:=⟨b',off' + j*8+1,none⟩) hbl').trans (hc' 1 _ rfl);have r2:=(hb.cell (p:=⟨b',off' + j*8+2,none⟩) hbl').trans (hc' 2 _ rfl);have r3:=(hb.cell (p:=⟨b',off' + j*8+3,none⟩) hbl').trans (hc' 3 _ rfl);have r4:=(hb.cell (p:=⟨b',off' + j*8+4,none⟩) hbl').trans (hc' 4 _ rfl);have r5:=(hb.cell (p:=⟨b',off' + j*8+5,none⟩) hbl').trans (hc' 5 _ rfl);have r6:=(hb.cell (p:=⟨b',off' + j*8+6,none⟩) hbl').trans (hc' 6 _ rfl);have r7:=(hb.cell (p:=⟨b',off' + j*8+7,none⟩) hbl').trans (hc' 7 _ rfl);have hwr:b' < wr.heap.size:=Yh hbl' hb.size;replace r0:=((zAE wr (.cells #[.bool x.a.neg,.slice A1 n1 c1,.int .i64 x.a.e,.bool x.b.neg,.slice A2 n2 c2,.int .i64 x.b.e,.slice A3 n3 c3,.slice A4 n4 c4] 67)).cell (p:=⟨b',off' + j*8,none⟩) hwr).trans r0;replace r1:=((zAE wr (.cells #[.bool x.a.neg,.slice A1 n1 c1,.int .i64 x.a.e,.bool x.b.neg,.slice A2 n2 c2,.int .i64 x.b.e,.slice A3 n3 c3,.slice A4 n4 c4] 67)).cell (p:=⟨b',off' + j*8+1,none⟩) hwr).trans r1;replace r2:=((zAE wr (.cells #[.bool x.a.neg,.slice A1 n1 c1,.int .i64 x.a.e,.bool x.b.neg,.slice A2 n2 c2,.int .i64 x.b.e,.slice A3 n3 c3,.slice A4 n4 c4] 67)).cell (p:=⟨b',off' + j*8+2,none⟩) hwr).trans r2;replace r3:=((zAE wr (.cells #[.bool x.a.neg,.slice A1 n1 c1,.int .i64 x.a.e,.bool x.b.neg,.slice A2 n2 c2,.int .i64 x.b.e,.slice A3 n3 c3,.slice A4 n4 c4] 67)).cell (p:=⟨b',off' + j*8+3,none⟩) hwr).trans r3;replace r4:=((zAE wr (.cells #[.bool x.a.neg,.slice A1 n1 c1,.int .i64 x.a.e,.bool x.b.neg,.slice A2 n2 c2,.int .i64 x.b.e,.slice A3 n3 c3,.slice A4 n4 c4] 67)).cell (p:=⟨b',off' + j*8+4,none⟩) hwr).trans r4;replace r5:=((zAE wr (.cells #[.bool x.a.neg,.slice A1 n1 c1,.int .i64 x.a.e,.bool x.b.neg,.slice A2 n2 c2,.int .i64 x.b.e,.slice A3 n3 c3,.slice A4 n4 c4] 67)).cell (p:=⟨b',off' + j*8+5,none⟩) hwr).trans r5;replace r6:=((zAE wr (.cells #[.bool x.a.neg,.slice A1 n1 c1,.int .i64 x.a.e,.bool x.b.neg,.slice A2 n2 c2,.int .i64 x.b.e,.slice A3 n3 c3,.slice A4 n4 c4] 67)).cell (p:=⟨b',off' + j*8+6,none⟩) hwr).trans r6;replace r7:=((zAE wr (.cells #[.bool x.a.neg,.slice A1 n1 c1,.int .i64 x.a.e,.bool x.b.neg,.slice A2 n2 c2,.int .i64 x.b.e,.slice A3 n3 c3,.slice A4 n4 c4] 67)).cell (p:=⟨b',off' + j*8+7,none⟩) hwr).trans r7;clear hwr;have HX:=Zh hx;have HY:=Zh hy;clear hx hy hc hc' hk hk' hRx hRy HP HS HS';have hb2:Below wr.heap.size wr ((wr.alloc (.cells #[.bool x.a.neg,.slice A1 n1 c1,.int .i64 x.a.e,.bool x.b.neg,.slice A2 n2 c2,.int .i64 x.b.e,.slice A3 n3 c3,.slice A4 n4 c4] 67)).alloc (.cells #[.bool y.a.neg,.slice Ax1 nx1 cx1,.int .i64 y.a.e,.bool y.b.neg,.slice Ax2 nx2 cx2,.int .i64 y.b.e,.slice Ax3 nx3 cx3,.slice Ax4 nx4 cx4] 67)):=zAA (zAE wr (.cells #[.bool x.a.neg,.slice A1 n1 c1,.int .i64 x.a.e,.bool x.b.neg,.slice A2 n2 c2,.int .i64 x.b.e,.slice A3 n3 c3,.slice A4 n4 c4] 67)) (zAE (wr.alloc (.cells #[.bool x.a.neg,.slice A1 n1 c1,.int .i64 x.a.e,.bool x.b.neg,.slice A2 n2 c2,.int .i64 x.b.e,.slice A3 n3 c3,.slice A4 n4 c4] 67)) (.cells #[.bool y.a.neg,.slice Ax1 nx1 cx1,.int .i64 y.a.e,.bool y.b.neg,.slice Ax2 nx2 cx2,.int .i64 y.b.e,.slice Ax3 nx3 cx3,.slice Ax4 nx4 cx4] 67));replace hcall:=hcall _ hb2;cases hq:q x y
    ·rw [hq] at hcall
     have HQ:=Zh hq;clear hq
     go_wp2_with (go_at_fn g;refine hcall.mono ?_;rintro e w' ⟨rfl,hb'⟩)
     go_ret;exact ⟨by rw [zLj q xs ys j x y HX.out HY.out HQ.out];rfl,zAt hb (zAA hb2 hb') (Ya _)⟩
    ·rw [hq] at hcall
     have HQ:=Zh hq;clear hq
     go_wp2_with (go_at_fn g;refine hcall.mono ?_;rintro e w' ⟨rfl,hb'⟩)
     go_roundw
     case rel=>exact ⟨j+1,by omega,by go_num,fun m x' y' hm hx hy=>by
      by_cases hmj:m<j
      ·exact HZ.out m x' y' hmj hx hy
      ·obtain rfl:m=j:=by omega
       rw [HX.out] at hx;rw [HY.out] at hy;injection hx with hx
       injection hy with hy
       rw [<- hx,<- hy];exact HQ.out,zAt hb (zAA hb2 hb') (Ya _)⟩
     case measure=>simp [intOf];omega
   ·go_wp2_with fail
    go_ret;refine ⟨?_,hb⟩;rw [zIb q xs ys (by rw [HL.out,HL'.out]) (fun m x y hx hy=>HZ.out m x y (by
     have:=(Yb.1 hx).1;have:=HL.out;omega) hx hy)]
    rfl
 ·have hne:((n:Int) != (m:Int))=true:=by rw [bne_iff_ne];omega
  go_enter Tryz.func23,Tryz.ntmps23
  go_wp2_with fail
  go_ret;exact ⟨by rw [zGk q xs ys (by rw [HL.out,HL'.out];exact hnm)];rfl,Yp _ _⟩
def whl:Iv:=⟨zAZ,zAZ,true⟩
def knw (l:List Iv):Bool:=l.all (fun x=>!x.all && ivV x)
def mdI (lo hi:Dy×Int):Iv:=if lo.2=0/\hi.2=0 then ⟨lo.1,hi.1,false⟩ else whl
def znT (x y:Iv) (p:Int):Iv:=if (knw [x,y] && znB p)=true then mdI (zn2 x.lo y.lo p false) (zn2 x.hi y.hi p true) else whl
def prs (x y:Iv):List (Dy×Dy):=[(x.lo,y.lo),(x.lo,y.hi),(x.hi,y.lo),(x.hi,y.hi)]
def f4 (p:Int) (k:Nat) (o:Iv) (c:Dy×Dy):Option Iv:=
 if (znO c.1 c.2 p false).2=0/\(znO c.1 c.2 p true).2=0 then
  some ⟨if k=0\/zCH (znO c.1 c.2 p false).1 o.lo<0 then (znO c.1 c.2 p false).1 else o.lo,if k=0\/0<zCH (znO c.1 c.2 p true).1 o.hi then (znO c.1 c.2 p true).1 else o.hi,false⟩
 else none
def f4s (p:Int) (x y:Iv):Nat->Option Iv
 | 0=>some ⟨zAZ,zAZ,false⟩
 | k+1=>match f4s p x y k,(prs x y)[k]? with
  | some o,some c=>f4 p k o c
  | _,_=>none
def zoT (x y:Iv) (p:Int):Iv:=if (knw [x,y] && znB p)=true then (f4s p x y 4).getD whl else whl
def ptI (d:Dy):Iv:=if vld d=true then ⟨d,d,false⟩ else whl
def lsD (a b:Dy):Dy:=if zCH a b<=0 then a else b
def mrD (a b:Dy):Dy:=if 0<=zCH a b then a else b
def znc (x y:Iv):Option Iv:=
 if (ivV x && ivV y)=true then (if x.all then some y else if y.all then some x else if 0<zCH (mrD x.lo y.lo) (lsD x.hi y.hi) then none else some ⟨mrD x.lo y.lo,lsD x.hi y.hi,false⟩) else none
def zpG (r x:List Iv) (p:Int):Nat->Iv
 | 0=>zoT (r.getD 0 whl) (x.getD 0 whl) p
 | k+1=>znT (zpG r x p k) (zoT (r.getD (k+1) whl) (x.getD (k+1) whl) p) p
def zn9 (r x:List Iv) (p:Int):Iv:=zpG r x p (r.length - 1)
theorem zns:BdI whl:=⟨by simp [Bd,whl,zAZ],by simp [Bd,whl,zAZ]⟩
theorem zpz {lo hi:Dy×Int}(h:Bd lo.1) (h':Bd hi.1):BdI (mdI lo hi):=by
 unfold mdI
 split
 ·exact ⟨h,h'⟩
 ·exact zns
theorem zoo (x y:Iv) (p:Int):BdI (znT x y p):=by
 unfold znT
 split
 ·exact zpz (zon _ _ _ _) (zon _ _ _ _)
 ·exact zns
theorem zqI {p:Int}{k:Nat}{o o':Iv}{c:Dy×Dy}(ho:BdI o) (h:f4 p k o c=some o'):BdI o':=by
 unfold f4 at h
 split at h
 ·injection h with h
  subst h;refine ⟨?_,?_⟩
  ·show Bd (if _ then _ else _)
   split
   ·exact znn _ _ _ _
   ·exact ho.1
  ·show Bd (if _ then _ else _)
   split
   ·exact znn _ _ _ _
   ·exact ho.2
 ·cases h
theorem zpy {p:Int}{x y:Iv}:∀ (k:Nat) (o:Iv),f4s p x y k=some o->BdI o:=by
 intro k
 induction k with
 | zero=>intro o h;injection h with h;subst h;exact ⟨by simp [Bd,zAZ],by simp [Bd,zAZ]⟩
 | succ k ih=>
  intro o h;unfold f4s at h
  split at h
  ·rename_i o1 c h1 h2
   exact zqI (ih _ h1) h
  ·cases h
theorem zoq (x y:Iv) (p:Int):BdI (zoT x y p):=by
 unfold zoT
 split
 ·cases h:f4s p x y 4 with
  | none=>exact zns
  | some o=>exact zpy _ _ h
 ·exact zns
theorem zop (r x:List Iv) (p:Int):∀k,BdI (zpG r x p k):=by
 intro k;cases k with
 | zero=>exact zoq _ _ _
 | succ k=>exact zoo _ _ _
theorem zqM (d:Dy):ivV (ptI d)=true:=by
 unfold ptI
 split
 ·rename_i h
  have hc:zCH d d<=0:=by
   unfold zCH;rw [if_pos ⟨h,h⟩,if_neg (by omega),if_neg (by omega)]
   split
   ·omega
   ·rename_i h0
    simp [zHh,zCT]
  unfold ivV;simp [h,hc]
 ·rfl
def NoU (cs:Array Value):Prop:=∀ (i:Nat) (x:Int),cs[i]? ≠ some (.int .u32 x)
def zqE (g n:Nat) (A:Option Addr):Prop:=0<n->∀ad,A=some ad->ad.block≠g
theorem SL.away {w:World}{A:Option Addr}{n c g:Nat}{l:List Nat}{t:TypeId}{cs:Array Value}(h:SL w A n c l) (hk:Blk w g t cs) (h0:NoU cs):zqE g n A:=by
 intro hn ad hA hg;obtain ⟨b,off,e,-,hc⟩:=h.at_ hn;rw [hA] at e;injection e with e
 subst e;have hl:0<l.length:=by rw [h.len];exact hn
 have:=hc 0 _ (Yo hl);rw [show (⟨b,off+0,none⟩:Addr)=⟨g,off,none⟩ from by rw [<- hg];rfl,hk.cell] at this;exact h0 _ _ this
theorem SL.past {w:World}{A:Option Addr}{n c g:Nat}{l:List Nat}(h:SL w A n c l) (ha:zqE g n A) (i:Nat) (x:Value):SL (w.setCell ⟨g,i,none⟩ x) A n c l:=by
 refine ⟨h.len,h.cap,h.max,h.lt,fun hn=>?_⟩;obtain ⟨b,off,rfl,hb,hc⟩:=h.at_ hn;have:=ha hn _ rfl;refine ⟨b,off,rfl,by simpa [World.setCell] using hb,fun j y hy=>?_⟩;rw [World.cell?_setCell_other _ _ _ _ (by intro e;injection e with e1;exact this e1.symm)];exact hc j y hy
theorem zpm (a:Bool) (A:Option Addr) (n c:Nat) (e:Int):NoU #[.bool a,.slice A n c,.int .i64 e]:=by
 intro i x h
 match i,h with
 | 0,h=>simp at h
 | 1,h=>simp at h
 | 2,h=>simp at h
 | i+3,h=>simp at h
theorem znD {fn:Func}{k j:Nat}(hr:fn.results=#[.cell k 41,.tmp j]) {tmps:Array Value}{w W:World}{g:Nat}{t:TypeId}{a0:Bool}{B:Option Addr}{m q:Nat}{a2:Int}{d:Dy}{z:Int}{A:Option Addr}{n c:Nat}
  (hB:Blk W g t #[.bool a0,.slice B m q,.int .i64 a2]) (hs:SL W A n c d.l/\zAn w.heap.size A n) (hb:Below w.heap.size w W) (hg:w.heap.size<=g)
  (hk:tmps.getD k undef=.pointer (some ⟨g,0,none⟩)) (hj:tmps.getD j undef=.int .i64 z) :
  bodyPost Tryz.prog fn (zol (d,z) w) .ret { tmps:=tmps,defers:=[] } (((W.setCell ⟨g,0,none⟩ (.bool d.neg)).setCell ⟨g,1,none⟩ (.slice A n c)).setCell ⟨g,2,none⟩ (.int .i64 d.e)):=by
 have ha:=hs.1.away hB (zpm _ _ _ _ _);refine Yn (zBI hr hk (hB.set3 _ _ _)) rfl ?_;rw [hj];exact ⟨A,n,c,rfl,⟨((hs.1.past ha 0 _).past ha 1 _).past ha 2 _,hs.2⟩,zAG hb hg _ _ _⟩
theorem zqO {W:World}{g:Nat}{t:TypeId}{d:Dy}{A:Option Addr}{n c:Nat}(hk:Blk W g t #[.bool d.neg,.slice A n c,.int .i64 d.e]) (hs:SL W A n c d.l):Sl 3 RD W (some ⟨g,0,none⟩) 1 1 [d]:=
 ⟨rfl,by omega,by omega,fun _=>⟨g,0,rfl,hk.lt,fun j x hx=>by
  match j,hx with
  | 0,hx=>
   simp at hx;subst hx;exact ⟨_,rfl,⟨A,n,c,rfl,hs⟩,fun i v hv=>by rw [show (⟨g,0+0*3+i,none⟩:Addr)=⟨g,i,none⟩ from by simp,hk.cell];simpa using hv⟩
  | j+1,hx=>simp at hx⟩⟩
theorem zqC {W:World}{g:Nat}{t:TypeId}{d d':Dy}{A B:Option Addr}{n c m q:Nat}(hk:Blk W g t #[.bool d.neg,.slice A n c,.int .i64 d.e,.bool d'.neg,.slice B m q,.int .i64 d'.e]) (hs:SL W A n c d.l) (hs':SL W B m q d'.l):Sl 3 RD W (some ⟨g,0,none⟩) 2 2 [d,d']:=
 ⟨rfl,by omega,by omega,fun _=>⟨g,0,rfl,hk.lt,fun j x hx=>by
  match j,hx with
  | 0,hx=>
   simp at hx;subst hx;exact ⟨[.bool d.neg,.slice A n c,.int .i64 d.e],rfl,⟨A,n,c,rfl,hs⟩,fun i v hv=>by
    rw [show (⟨g,0+0*3+i,none⟩:Addr)=⟨g,i,none⟩ from by simp,hk.cell]
    match i,hv with
    | 0,hv=>exact hv
    | 1,hv=>exact hv
    | 2,hv=>exact hv
    | i+3,hv=>simp at hv⟩
  | 1,hx=>
   simp at hx;subst hx;exact ⟨[.bool d'.neg,.slice B m q,.int .i64 d'.e],rfl,⟨B,m,q,rfl,hs'⟩,fun i v hv=>by
    rw [show (⟨g,0+1*3+i,none⟩:Addr)=⟨g,3+i,none⟩ from by simp,hk.cell]
    match i,hv with
    | 0,hv=>exact hv
    | 1,hv=>exact hv
    | 2,hv=>exact hv
    | i+3,hv=>simp at hv⟩
  | j+2,hx=>simp at hx⟩⟩
theorem zpC (neg:Bool) (A:Option Addr) (n c:Nat) (e:Int) (w:World) :
  Calls Tryz.prog 322 #[.agg #[.bool neg,.slice A n c,.int .i64 e]] w fun e' w'=>e' = .returned (.agg #[.slice A n c,.int .i64 e,.bool false])/\Below w.heap.size w w':=by
 have kd:=(Blk.new w 41 #[.bool neg,.slice A n c,.int .i64 e]).next (zAE (w.alloc (.cells #[.bool neg,.slice A n c,.int .i64 e] 41)) (.cells #[.slice none 0 0,.int .i64 0,.bool false] 290));obtain ⟨p0,p1,p2⟩:=kd.cells3;go_enter Tryz.func322,Tryz.ntmps322
 go_wp2_with fail
 refine Yn (v:=.agg #[.slice A n c,.int .i64 e,.bool false]) (by simp [results,Tryz.results322,go_sem]) rfl ⟨rfl,zAA (zAE _ _) (zAE _ _)⟩
theorem znP (neg:Bool) (A:Option Addr) (n c:Nat) (l:List Nat) (e p:Int) (up:Bool) (w:World) (h:SL w A n c l) (hn:n<=1000) (ht:zBx w) :
  Calls Tryz.prog 268 #[.agg #[.bool neg,.slice A n c,.int .i64 e],.int .i64 p,.bool up] w (zol (zoI ⟨neg,l,e⟩ p up) w):=by
 obtain ⟨W0,eW,hb0,kd,kr,kl⟩:=al3 w #[.bool neg,.slice A n c,.int .i64 e] 41 #[.bool false,.slice none 0 0,.int .i64 0] 41 #[.bool neg,.slice A n c,.int .i64 e] 41;go_enter Tryz.func268,Tryz.ntmps268
 obtain ⟨p0,p1,p2⟩:=kd.cells3;go_wp2_with fail
 clear eW;have HF:=Zh (znN p (some ⟨w.heap.size+1+1,0,none⟩) 1 1 [⟨neg,l,e⟩] W0 (zqO (d:=⟨neg,l,e⟩) kl (h.below hb0)) (by omega) (by intro d hd;rw [List.mem_singleton.1 hd];show l.length<=1000;rw [h.len];exact hn));have HV:Hid (zoI ⟨neg,l,e⟩ p up=if znQ p [⟨neg,l,e⟩]=0 then zn1 neg (val l) e p false up else (zAZ,znQ p [⟨neg,l,e⟩])):=rfl;have HCS:Hid (znQ p [⟨neg,l,e⟩]=0->zpE (val l) e p/\n<=256):=fun h0=>by
  have h1:=znC h0;have h2:=h1.1 _ (List.mem_singleton.2 rfl);exact ⟨zoO h2 h1.2.1 h1.2.2,(zHM h h2).1⟩
 have HS:=Zh h;have HT:=Zh ht;have HB0:=Zh hb0;have HKD:=Zh kd;have HKR:=Zh kr;generalize znQ p [⟨neg,l,e⟩]=q at *;generalize zoI ⟨neg,l,e⟩ p up=PP at *;clear p0 p1 p2 kd kr kl hb0 h ht;refine HF.out.mono ?_;rintro e' w1 ⟨rfl,hb1⟩
 have HB1:=Zh hb1;have kr1:=HKR.out.next hb1;obtain ⟨r0,r1,r2⟩:=kr1.cells3;have f0:=kr1.frozen 0;have f1:=kr1.frozen 1;have f2:=kr1.frozen 2;have HKR1:=Zh kr1;clear kr1 hb1;by_cases hq:q=0
 ·subst hq
  have HCS2:=Zh (HCS.out rfl);have HV2:Hid (PP=zn1 neg (val l) e p false up):=by unfold Hid;rw [HV.out,if_pos rfl]
  clear r0 r1 r2 f0 f1 f2 HCS HV;go_upto_region 4 with fail
  have hB:=zAA HB1.out (zBw w1);have HK:Hid (∀V,Below W0.heap.size W0 V->(fun W=>Blk W w.heap.size 41 #[.bool neg,.slice A n c,.int .i64 e]) V):=fun V hV=>HKD.out.next hV
  have HKp:=Zh (HK.out _ hB);have HOF:=Zh (fun W=>zpC neg A n c e W);have HSG:=Zh (fun W (hb:Below W0.heap.size W0 W)=>znH neg A n c l e p false up W (HS.out.below (zAA HB0.out hb)) HCS2.out.2 HCS2.out.1 (HT.out.next (zAA HB0.out hb)));generalize zn1 neg (val l) e p false up=SG at *;obtain ⟨sd,sz⟩:=SG
  (try dsimp only at HSG)
  have HCE:=Zh (fun (W:World) (hSw:(fun W=>Blk W w.heap.size 41 #[.bool neg,.slice A n c,.int .i64 e]) W)=>Blk.cells3 hSw);refine wp_region_held_drew (S:=(fun W=>Blk W w.heap.size 41 #[.bool neg,.slice A n c,.int .i64 e])) (by kernel_rfl) (HKp.out) (fun hH=>?_);generalize w1.drew=Wd at *;refine tkc 0 HCE.out hH ?_;refine tkc 1 HCE.out hH ?_;refine tkc 2 HCE.out hH ?_;refine tkc 4 HCE.out hH ?_;refine tkc 5 HCE.out hH ?_;simp only [Act.put,sT,sZ,sS];refine rdh 3 (fun K hK=>?_)
  go_simp
  refine (HOF.out _).mono ?_;rintro e' V1 ⟨rfl,hc⟩
  replace hB:=zAA hB hc;replace HKp:=Zh (HK.out _ hB);clear hc;go_wp2_with fail
  refine hK.out _ _ (HKp.out) (fun hH=>?_);clear hK K;refine rdh 6 (fun K hK=>?_)
  go_simp
  refine (HSG.out _ hB).mono ?_;rintro e' V2 ⟨A3,n3,c3,rfl,hs3,hc⟩
  have HS3:=Zh (And.intro hs3.1 (hs3.2.mono (Yq HB0.out.size hB.size)));replace hB:=zAA hB hc;replace HKp:=Zh (HK.out _ hB);clear hc;clear hs3;go_wp2_with fail
  refine hK.out _ _ (HKp.out) (fun hH=>?_);clear hK K;refine tkc 7 HCE.out hH ?_;refine tkc 8 HCE.out hH ?_;simp only [Act.put,sT,sZ,sS];refine rdh 9 (fun K hK=>?_);have kr:=HKR.out.next hB;obtain ⟨r0,r1,r2⟩:=kr.cells3;have f0:=kr.frozen 0;have f1:=kr.frozen 1;have f2:=kr.frozen 2;have HKR2:=Zh kr
  go_simp
  clear r0 r1 r2 f0 f1 f2 kr;replace HKp:=Zh (((HKp.out.far (p:=⟨w.heap.size+1,0,none⟩) (by simp) (.bool sd.neg)).far (p:=⟨w.heap.size+1,1,none⟩) (by simp) (.slice A3 n3 c3)).far (p:=⟨w.heap.size+1,2,none⟩) (by simp) (.int .i64 sd.e));refine hK.out _ _ (HKp.out) (fun hH=>?_);clear hK K;refine tkc 10 HCE.out hH ?_;simp only [Act.put,sT,sZ,sS];refine wpAnyH_done (by kernel_rfl) ?_ _;go_wp2_with fail
  rw [HV2.out];exact znD Tryz.results268 HKR2.out HS3.out (zAA HB0.out hB) (by omega) rfl rfl
 ·have hq2:(q != 0)=true:=by simpa using hq
  have HV2:Hid (PP=(zAZ,q)):=by unfold Hid;rw [HV.out,if_neg hq]
  go_wp2_with fail
  rw [HV2.out];exact znD Tryz.results268 HKR1.out ⟨SL.nil _,zAn.zero⟩ (zAA HB0.out HB1.out) (by omega) rfl rfl
def zpu (o:ExN×Bool) (w:World) (e:Ending) (w':World):Prop:=∃A n c,e=.returned (.tuple #[.agg #[.slice A n c,.int .i64 o.1.e,.bool o.1.more],.bool o.2])/\SL w' A n c (zAa o.1.m)/\Below w.heap.size w w'
theorem zqL (a:Bool) (A:Option Addr) (n c:Nat) (e:Int):NoU #[.slice A n c,.int .i64 e,.bool a]:=by
 intro i x h
 match i,h with
 | 0,h=>simp at h
 | 1,h=>simp at h
 | 2,h=>simp at h
 | i+3,h=>simp at h
theorem zow {fn:Func}{k j:Nat}(hr:fn.results=#[.cell k 290,.tmp j]) {tmps:Array Value}{w W:World}{g:Nat}{t:TypeId}{a0:Bool}{B:Option Addr}{m q:Nat}{a2:Int}{M:Nat}{x:Int}{mo z:Bool}{A:Option Addr}{n c:Nat}
  (hB:Blk W g t #[.slice B m q,.int .i64 a2,.bool a0]) (hs:SL W A n c (zAa M)) (hb:Below w.heap.size w W) (hg:w.heap.size<=g)
  (hk:tmps.getD k undef=.pointer (some ⟨g,0,none⟩)) (hj:tmps.getD j undef=.bool z) :
  bodyPost Tryz.prog fn (zpu (⟨M,x,mo⟩,z) w) .ret { tmps:=tmps,defers:=[] } (((W.setCell ⟨g,0,none⟩ (.slice A n c)).setCell ⟨g,1,none⟩ (.int .i64 x)).setCell ⟨g,2,none⟩ (.bool mo)):=by
 have ha:=hs.away hB (zqL _ _ _ _ _);have hB3:=hB.set3 (.slice A n c) (.int .i64 x) (.bool mo);have c0:=hB3.cell 0;have c1:=hB3.cell 1;have c2:=hB3.cell 2;simp at c0 c1 c2;have hk':tmps[k]?.getD undef=.pointer (some ⟨g,0,none⟩):=by simpa using hk
 refine Yn (v:=.tuple #[.agg #[.slice A n c,.int .i64 x,.bool mo],tmps.getD j undef]) (by simp [results,hr,hk',go_sem,c0,c1,c2]) rfl ?_;rw [hj];exact ⟨A,n,c,rfl,((hs.past ha 0 _).past ha 1 _).past ha 2 _,zAG hb hg _ _ _⟩
theorem zoi (neg neg':Bool) (A B:Option Addr) (n c m q:Nat) (l l':List Nat) (e e' p:Int) (w:World) (h:SL w A n c l) (h':SL w B m q l') (hv:vld ⟨neg,l,e⟩=true) (hv':vld ⟨neg',l',e'⟩=true) (hl:l≠[]) (hl':l' ≠ []) (ht:zCU ⟨neg',l',e'⟩<=zCU ⟨neg,l,e⟩) (h1:8<=p) (h2:p<=512) :
  Calls Tryz.prog 269 #[.agg #[.bool neg,.slice A n c,.int .i64 e],.agg #[.bool neg',.slice B m q,.int .i64 e'],.int .i64 p] w (zpu (znZ ⟨neg,l,e⟩ ⟨neg',l',e'⟩ p) w):=by
 obtain ⟨W0,eW,hb0,ka,kb,kr⟩:=al3 w #[.bool neg,.slice A n c,.int .i64 e] 41 #[.bool neg',.slice B m q,.int .i64 e'] 41 #[.slice none 0 0,.int .i64 0,.bool false] 290;have hva:=znX hv;have hvb:=znX hv';have ea1:=hva.e1;have ea2:=hva.e2;have eb1:=hvb.e1;have eb2:=hvb.e2;have ta:-20000<=zCU ⟨neg,l,e⟩/\zCU ⟨neg,l,e⟩<=20000:=by rw [znk hv hl];have:=hva.t;have:=hva.m;omega
 have tb:-20000<=zCU ⟨neg',l',e'⟩/\zCU ⟨neg',l',e'⟩<=20000:=by rw [znk hv' hl'];have:=hvb.t;have:=hvb.m;omega
 dsimp only at ea1 ea2 eb1 eb2;have hss:=zoJ hv hv' hl hl' ht h1 h2;have l1:=hss.l1;have l2:=hss.l2;have hx:=hss.x;have hy:=hss.y;have hz:=hss.z;have hn:n<=256:=(zHM h hv).1;have hm:m<=256:=(zHM h' hv').1;have HTA:=Zh (fun W (hb:Below w.heap.size w W)=>zBB neg A n c l e W (h.below hb) (by omega));have HTB:=Zh (fun W (hb:Below w.heap.size w W)=>zBB neg' B m q l' e' W (h'.below hb) (by omega));have HL:Hid (znK ⟨neg,l,e⟩ ⟨neg',l',e'⟩ p=if zCU ⟨neg,l,e⟩ - zCU ⟨neg',l',e'⟩<=2 then min (min e (zCU ⟨neg,l,e⟩ - p - 8)) e' else min e (zCU ⟨neg,l,e⟩ - p - 8)):=rfl;have HX:Hid (zom ⟨neg,l,e⟩ ⟨neg',l',e'⟩ p=val l*2^(e - znK ⟨neg,l,e⟩ ⟨neg',l',e'⟩ p).toNat):=rfl;have HY:Hid (zn4 ⟨neg,l,e⟩ ⟨neg',l',e'⟩ p=if znK ⟨neg,l,e⟩ ⟨neg',l',e'⟩ p<=e' then (val l' * 2^(e' - znK ⟨neg,l,e⟩ ⟨neg',l',e'⟩ p).toNat,false) else (znq (val l') (znK ⟨neg,l,e⟩ ⟨neg',l',e'⟩ p - e').toNat,zpD (val l') (znK ⟨neg,l,e⟩ ⟨neg',l',e'⟩ p - e').toNat)):=rfl;have HZ:Hid (zpH ⟨neg,l,e⟩ ⟨neg',l',e'⟩ p=if (zn4 ⟨neg,l,e⟩ ⟨neg',l',e'⟩ p).2=true then (zn4 ⟨neg,l,e⟩ ⟨neg',l',e'⟩ p).1+1 else (zn4 ⟨neg,l,e⟩ ⟨neg',l',e'⟩ p).1):=rfl;have HP:Hid (znZ ⟨neg,l,e⟩ ⟨neg',l',e'⟩ p=if neg=neg' then (⟨zom ⟨neg,l,e⟩ ⟨neg',l',e'⟩ p+(zn4 ⟨neg,l,e⟩ ⟨neg',l',e'⟩ p).1,znK ⟨neg,l,e⟩ ⟨neg',l',e'⟩ p,(zn4 ⟨neg,l,e⟩ ⟨neg',l',e'⟩ p).2⟩,false) else if zom ⟨neg,l,e⟩ ⟨neg',l',e'⟩ p<zpH ⟨neg,l,e⟩ ⟨neg',l',e'⟩ p then (⟨zpH ⟨neg,l,e⟩ ⟨neg',l',e'⟩ p - zom ⟨neg,l,e⟩ ⟨neg',l',e'⟩ p,znK ⟨neg,l,e⟩ ⟨neg',l',e'⟩ p,false⟩,true) else (⟨zom ⟨neg,l,e⟩ ⟨neg',l',e'⟩ p - zpH ⟨neg,l,e⟩ ⟨neg',l',e'⟩ p,znK ⟨neg,l,e⟩ ⟨neg',l',e'⟩ p,(zn4 ⟨neg,l,e⟩ ⟨neg',l',e'⟩ p).2⟩,false)):=rfl;dsimp only at l2;generalize znZ ⟨neg,l,e⟩ ⟨neg',l',e'⟩ p=PP at *;generalize zpH ⟨neg,l,e⟩ ⟨neg',l',e'⟩ p=ZZ at *;generalize zn4 ⟨neg,l,e⟩ ⟨neg',l',e'⟩ p=YY at *;generalize zom ⟨neg,l,e⟩ ⟨neg',l',e'⟩ p=XX at *;generalize znK ⟨neg,l,e⟩ ⟨neg',l',e'⟩ p=LL at *;generalize zCU ⟨neg,l,e⟩=ta at *;generalize zCU ⟨neg',l',e'⟩=tb at *;obtain ⟨ta1,ta2⟩:=ta;obtain ⟨tb1,tb2⟩:=tb;have HH:=Zh (fun W (hb:Below w.heap.size w W)=>h.below hb);have HH':=Zh (fun W (hb:Below w.heap.size w W)=>h'.below hb);have hlm:=h.lt;have hlm':=h'.lt;have HLM:=Zh hlm;have HLM':=Zh hlm';clear hss hva hvb hv hv' hl hl' ht hlm hlm' h h';obtain ⟨p0,p1,p2⟩:=ka.cells3;obtain ⟨p3,p4,p5⟩:=kb.cells3;go_enter Tryz.func269,Tryz.ntmps269
 go_upto_region 1 with fail
 clear eW;have HB0:=Zh hb0;have HKA:=Zh ka;have HKB:=Zh kb;have HKR:=Zh kr;clear p0 p1 p2 p3 p4 p5 hb0 ka kb kr
 go_cut [8] (fun s8 wx=>s8=.int .i64 (min e (ta - p - 8))/\Below W0.heap.size W0 wx)
 case first=>
  have hB:=zBw W0;have HK:Hid (∀V,Below W0.heap.size W0 V->(fun W=>Blk W w.heap.size 41 #[.bool neg,.slice A n c,.int .i64 e]) V):=fun V hV=>HKA.out.next hV
  have HKp:=Zh (HK.out _ hB);have w1:IntKind.i64.wrap (ta - p)=ta - p:=IntWalk.i64_in _ (by omega);have w2:IntKind.i64.wrap (ta - p - 8)=ta - p - 8:=IntWalk.i64_in _ (by omega);have HCE:=Zh (fun (W:World) (hSw:(fun W=>Blk W w.heap.size 41 #[.bool neg,.slice A n c,.int .i64 e]) W)=>Blk.cells3 hSw);refine wp_region_held_drew (S:=(fun W=>Blk W w.heap.size 41 #[.bool neg,.slice A n c,.int .i64 e])) (by kernel_rfl) (HKp.out) (fun hH=>?_);generalize W0.drew=Wd at *;refine tkc 0 HCE.out hH ?_;refine tkc 1 HCE.out hH ?_;refine tkc 2 HCE.out hH ?_;refine tkc 4 HCE.out hH ?_;simp only [Act.put,sT,sZ,sS];refine rdh 3 (fun K hK=>?_)
  go_simp
  refine (HTA.out _ (zAA HB0.out hB)).mono ?_;rintro e2 V1 ⟨rfl,hc⟩
  replace hB:=zAA hB hc;replace HKp:=Zh (HK.out _ hB);clear hc;go_wp2_with fail
  refine hK.out _ _ (HKp.out) (fun hH=>?_);clear hK K;refine tkc 5 HCE.out hH ?_;refine tkc 6 HCE.out hH ?_;refine tkc 7 HCE.out hH ?_;refine tkc 8 HCE.out hH ?_;simp only [Act.put,sT,sZ,sS];refine wpAnyH_done (by kernel_rfl) ?_ _;go_wp2_with fail
  go_meet
  exact ⟨rfl,hB⟩
 case rest=>
  obtain ⟨rfl,hb1⟩:=hcut;go_upto_region 2 with fail
  have hB:=zAA hb1 (zBw wc);have HK:Hid (∀V,Below W0.heap.size W0 V->(fun W=>Blk W w.heap.size 41 #[.bool neg,.slice A n c,.int .i64 e]/\Blk W (w.heap.size+1) 41 #[.bool neg',.slice B m q,.int .i64 e']) V):=fun V hV=>⟨HKA.out.next hV,HKB.out.next hV⟩
  have HKp:=Zh (HK.out _ hB);have w1:IntKind.i64.wrap (ta - tb)=ta - tb:=IntWalk.i64_in _ (by omega);have HCE:=Zh (fun (W:World) (hSw:(fun W=>Blk W w.heap.size 41 #[.bool neg,.slice A n c,.int .i64 e]/\Blk W (w.heap.size+1) 41 #[.bool neg',.slice B m q,.int .i64 e']) W)=>And.intro (Blk.cells3 hSw.1) (Blk.cells3 hSw.2));refine wp_region_held_drew (S:=(fun W=>Blk W w.heap.size 41 #[.bool neg,.slice A n c,.int .i64 e]/\Blk W (w.heap.size+1) 41 #[.bool neg',.slice B m q,.int .i64 e'])) (by kernel_rfl) (HKp.out) (fun hH=>?_);generalize wc.drew=Wd at *;refine tkc 0 HCE.out hH ?_;refine tkc 2 HCE.out hH ?_;simp only [Act.put,sT,sZ,sS];refine rdh 1 (fun K hK=>?_)
  go_simp
  refine (HTA.out _ (zAA HB0.out hB)).mono ?_;rintro e2 V1 ⟨rfl,hc⟩
  replace hB:=zAA hB hc;replace HKp:=Zh (HK.out _ hB);clear hc;go_wp2_with fail
  refine hK.out _ _ (HKp.out) (fun hH=>?_);clear hK K;refine rdh 3 (fun K hK=>?_)
  go_simp
  refine (HTB.out _ (zAA HB0.out hB)).mono ?_;rintro e2 V2 ⟨rfl,hc⟩
  replace hB:=zAA hB hc;replace HKp:=Zh (HK.out _ hB);clear hc;go_wp2_with fail
  refine hK.out _ _ (HKp.out) (fun hH=>?_);clear hK K;refine tkc 4 HCE.out hH ?_;refine tkc 5 HCE.out hH ?_;simp only [Act.put,sT,sZ,sS];refine wpAnyH_done (by kernel_rfl) ?_ _
  go_upto_if 31 with fail
  have hb2:=hB;clear hB HK HKp w1 hb1
  go_cut [8] (fun s8 wx=>s8=.int .i64 LL/\Below W0.heap.size W0 wx)
  case first=>
   obtain ⟨p3,p4,p5⟩:=(HKB.out.next hb2).cells3;by_cases hle:ta - tb<=2
   ·have hd:decide (ta - tb<=2)=true:=Yf hle
    have HL2:Hid (LL=min (min e (ta - p - 8)) e'):=by unfold Hid;rw [HL.out,if_pos hle]
    clear HL;go_wp2_with fail
    go_meet
    exact ⟨by rw [HL2.out];congr 1;omega,hb2⟩
   ·have hd:decide (ta - tb<=2)=false:=Ye hle
    have HL2:Hid (LL=min e (ta - p - 8)):=by unfold Hid;rw [HL.out,if_neg hle]
    clear HL;go_wp2_with fail
    go_meet
    exact ⟨by rw [HL2.out],hb2⟩
  case rest=>
   obtain ⟨rfl,hb3⟩:=hcut;clear hb2 HL HTA HTB;obtain ⟨p0,p1,p2⟩:=(HKA.out.next hb3).cells3;obtain ⟨p3,p4,p5⟩:=(HKB.out.next hb3).cells3;obtain ⟨k,hk⟩:∃k:Nat,e - LL=(k:Int):=⟨(e - LL).toNat,by omega⟩;have hwk:IntKind.i64.wrap (k:Int)=(k:Int):=IntWalk.i64_in _ (by omega);have HX2:Hid (XX=val l*2^k):=by unfold Hid;rw [HX.out,hk];rfl
   have HDX:=Zh (zPI (M:=XX) (by omega));have HSH:=Zh (znJ A n c k l wc (HH.out _ (zAA HB0.out hb3)) (by omega) (by omega) (by rw [<- HX2.out];exact Yq HDX.out (by omega)));rw [<- HX2.out] at HSH;clear HX HX2 HH;go_wp2_with fail
   refine HSH.out.mono ?_;rintro e2 w1 ⟨A1,n1,c1,rfl,hs1,-,hbx⟩
   have hb4:=zAA hb3 hbx;have hn1:n1<=250:=by rw [<- hs1.len];exact HDX.out
   have HS1:=Zh hs1;clear HSH HDX hs1 hbx hb3 p0 p1 p2 p3 p4 p5 hk hwk;obtain ⟨p0,p1,p2⟩:=(HKA.out.next hb4).cells3;obtain ⟨p3,p4,p5⟩:=(HKB.out.next hb4).cells3
   go_upto_if 46 with fail
   have h31:val [1]=1:=by decide
   go_cut [10,11] (fun s10 s11 wx=>∃ (A2:Option Addr) (n2 c2:Nat),s10=.slice A2 n2 c2/\s11=.bool YY.2/\SL wx A2 n2 c2 (zAa YY.1)/\n2<=250/\Below w1.heap.size w1 wx)
   case first=>
    have HDY:=Zh (zPI (M:=YY.1) (by omega));by_cases hle:LL<=e'
    ·obtain ⟨k,hk⟩:∃k:Nat,e' - LL=(k:Int):=⟨(e' - LL).toNat,by omega⟩
     have hwk:IntKind.i64.wrap (k:Int)=(k:Int):=IntWalk.i64_in _ (by omega);have HY2:Hid (YY=(val l' * 2^k,false)):=by unfold Hid;rw [HY.out,if_pos hle,hk];rfl
     clear HY HZ HP;rw [HY2.out] at HDY;have HSH:=Zh (znJ B m q k l' w1 (HH'.out _ (zAA HB0.out hb4)) (by omega) (by omega) (Yq HDY.out (by omega)));go_wp2_with fail
     refine HSH.out.mono ?_;rintro e2 w2 ⟨A2,n2,c2,rfl,hs2,-,hbx⟩
     have hn2:n2<=250:=by rw [<- hs2.len];exact HDY.out
     go_wp2_with fail
     go_meet
     exact ⟨A2,n2,c2,rfl,by rw [HY2.out],by rw [HY2.out];exact hs2,hn2,hbx⟩
    ·obtain ⟨k,hk⟩:∃k:Nat,LL - e' = (k:Int):=⟨(LL - e').toNat,by omega⟩
     have hlt:e' < LL:=by omega
     have hwk:IntKind.i64.wrap (k:Int)=(k:Int):=IntWalk.i64_in _ (by omega);have HY2:Hid (YY=(znq (val l') k,zpD (val l') k)):=by unfold Hid;rw [HY.out,if_neg hle,hk];rfl
     clear HY HZ HP;rw [HY2.out] at HDY;have HSH:=Zh (zoW B m q k l' w1 (HH'.out _ (zAA HB0.out hb4)) (by omega) (by omega));generalize zpD (val l') k=lost at *;go_wp2_with fail
     refine HSH.out.mono ?_;rintro e2 w2 ⟨A2,n2,c2,rfl,hs2,-,hbx⟩
     have hn2:n2<=250:=by rw [<- hs2.len];exact HDY.out
     go_wp2_with fail
     go_meet
     exact ⟨A2,n2,c2,rfl,by rw [HY2.out],by rw [HY2.out];exact hs2,hn2,hbx⟩
   case rest=>
    obtain ⟨A2,n2,c2,rfl,rfl,hs2,hn2,hb5⟩:=hcut;obtain ⟨Y,lost⟩:=YY;dsimp only at hs2 hy HZ HP ⊢;have hb6:=zAA hb4 hb5;have HS2:=Zh hs2;have HS3:=Zh (HS1.out.below hb5);have HDX:=Zh (zPI (M:=XX) (by omega));have kr6:=HKR.out.next hb6;have hlt6:w.heap.size+1+1<wc.heap.size:=kr6.lt;clear HS1 hs2 hb5 hb4 HY p0 p1 p2 p3 p4 p5 kr6;obtain ⟨p0,p1,p2⟩:=(HKA.out.next hb6).cells3;obtain ⟨p3,p4,p5⟩:=(HKB.out.next hb6).cells3;by_cases hn:neg=neg'
    ·subst hn
     have HP2:Hid (PP=(⟨XX+Y,LL,lost⟩,false)):=by unfold Hid;rw [HP.out,if_pos rfl]
     have HA:=Zh (zNT A1 A2 n1 c1 n2 c2 (zAa XX) (zAa Y) _ HS3.out HS2.out (by omega) (by omega) (by rw [zAH,zAH];exact Yq (zPI (Yq (znV hx hy) (by omega))) (by omega)));rw [zAH,zAH] at HA;clear HP HZ;cases neg
     all_goals
      go_wp2_with fail
      refine HA.out.mono ?_;rintro e2 w2 ⟨A3,n3,c3,rfl,hs3,-,hb3⟩
      have kr:=HKR.out.next (zAA hb6 hb3);obtain ⟨r0,r1,r2⟩:=kr.cells3;have f0:=kr.frozen 0;have f1:=kr.frozen 1;have f2:=kr.frozen 2;have HKR2:=Zh kr;have HS5:=Zh hs3;have HB5:=Zh (zAA HB0.out (zAA hb6 hb3));clear kr hs3 hb3 p0 p1 p2 p3 p4 p5;go_wp2_with fail
      rw [HP2.out];exact zow Tryz.results269 HKR2.out HS5.out HB5.out (by omega) rfl rfl
    ·have hnn:(neg == neg')=false:=by simpa using hn
     have HP2:Hid (PP=if XX<ZZ then (⟨ZZ - XX,LL,false⟩,true) else (⟨XX - ZZ,LL,lost⟩,false)):=by unfold Hid;rw [HP.out,if_neg hn]
     have HDZ:=Zh (zPI (M:=ZZ) (by omega));clear HP hn
     go_upto_if 79 with fail
     go_cut [10] (fun s10 wx=>∃ (A4:Option Addr) (n4 c4:Nat),s10=.slice A4 n4 c4/\SL wx A4 n4 c4 (zAa ZZ)/\n4<=250/\Below wc.heap.size wc wx)
     case first=>
      cases lost
      ·have hz2:ZZ=Y:=by rw [HZ.out];rfl
       clear HZ;go_wp2_with fail
       go_meet
       exact ⟨A2,n2,c2,rfl,by rw [hz2];exact HS2.out,hn2,Yp _ _⟩
      ·have hz2:ZZ=Y+1:=by rw [HZ.out];rfl
       have hc:=zAE wc (.cells #[.int .u32 1] 109);have HA:=Zh (zNT A2 (some ⟨wc.heap.size,0,none⟩) n2 c2 1 1 (zAa Y) [1] _ (HS2.out.below hc) (zoX (Blk.new wc 109 #[.int .u32 1])) (by omega) (by omega) (by rw [zAH,h31,<- hz2];exact Yq HDZ.out (by omega)));rw [zAH,h31,<- hz2] at HA;have HC:=Zh hc;clear hc hz2 HZ;go_wp2_with fail
       refine HA.out.mono ?_;rintro e2 w2 ⟨A3,n3,c3,rfl,hs3,-,hb3⟩
       have hn3:n3<=250:=by rw [<- hs3.len];exact HDZ.out
       go_wp2_with fail
       go_meet
       exact ⟨A3,n3,c3,rfl,hs3,hn3,zAA HC.out hb3⟩
     case rest=>
      obtain ⟨A4,n4,c4,rfl,hs4,hn4,hbx⟩:=hcut;have hb7:=zAA hb6 hbx;have HS4:=Zh hs4;have HS6:=Zh (HS3.out.below hbx);have HC:=Zh (zDN A1 A4 n1 c1 n4 c4 (zAa XX) (zAa ZZ) _ HS6.out hs4);rw [zAH,zAH] at HC;clear HS2 HS3 hs4 hbx HZ p0 p1 p2 p3 p4 p5;by_cases hlt:XX<ZZ
      ·have hc:zCT XX ZZ = -1:=by unfold zCT;rw [if_pos hlt]
       rw [hc] at HC;have HP3:Hid (PP=(⟨ZZ - XX,LL,false⟩,true)):=by unfold Hid;rw [HP2.out,if_pos hlt]
       have hle:XX<=ZZ:=by omega
       clear HP2 hc;go_wp2_with fail
       refine HC.out.mono ?_;rintro e2 w2 ⟨rfl,qn,rfl⟩
       have HA:=Zh (zJO A4 A1 n4 c4 n1 c1 (zAa ZZ) (zAa XX) _ (HS4.out.drewN qn) (HS6.out.drewN qn) (by omega) (by omega) (by rw [zAH,zAH];exact hle));rw [zAH,zAH] at HA;have hb8:=zAR hb7 qn;go_wp2_with fail
       refine HA.out.mono ?_;rintro e2 w2 ⟨A3,n3,c3,rfl,hs3,-,hb3⟩
       have kr:=HKR.out.next (zAA hb8 hb3);obtain ⟨r0,r1,r2⟩:=kr.cells3;have f0:=kr.frozen 0;have f1:=kr.frozen 1;have f2:=kr.frozen 2;have HKR2:=Zh kr;have HS5:=Zh hs3;have HB5:=Zh (zAA HB0.out (zAA hb8 hb3));clear kr hs3 hb3;go_wp2_with fail
       rw [HP3.out];exact zow Tryz.results269 HKR2.out HS5.out HB5.out (by omega) rfl rfl
      ·have hc:¬ zCT XX ZZ<0:=by unfold zCT;rw [if_neg hlt];split <;> omega
       have HP3:Hid (PP=(⟨XX - ZZ,LL,lost⟩,false)):=by unfold Hid;rw [HP2.out,if_neg hlt]
       have hle:ZZ<=XX:=by omega
       generalize zCT XX ZZ=cm at *;clear HP2;go_wp2_with fail
       refine HC.out.mono ?_;rintro e2 w2 ⟨rfl,qn,rfl⟩
       have HA:=Zh (zJO A1 A4 n1 c1 n4 c4 (zAa XX) (zAa ZZ) _ (HS6.out.drewN qn) (HS4.out.drewN qn) (by omega) (by omega) (by rw [zAH,zAH];exact hle));rw [zAH,zAH] at HA;have hb8:=zAR hb7 qn;go_wp2_with fail
       refine HA.out.mono ?_;rintro e2 w2 ⟨A3,n3,c3,rfl,hs3,-,hb3⟩
       have kr:=HKR.out.next (zAA hb8 hb3);obtain ⟨r0,r1,r2⟩:=kr.cells3;have f0:=kr.frozen 0;have f1:=kr.frozen 1;have f2:=kr.frozen 2;have HKR2:=Zh kr;have HS5:=Zh hs3;have HB5:=Zh (zAA HB0.out (zAA hb8 hb3));clear kr hs3 hb3;go_wp2_with fail
       rw [HP3.out];exact zow Tryz.results269 HKR2.out HS5.out HB5.out (by omega) rfl rfl
theorem zni (neg neg':Bool) (A B:Option Addr) (n c m q:Nat) (l l':List Nat) (e e' p:Int) (up:Bool) (w:World) (h:SL w A n c l) (h':SL w B m q l') (hn:n<=1000) (hm:m<=1000) (ht:zBx w) :
  Calls Tryz.prog 212 #[.agg #[.bool neg,.slice A n c,.int .i64 e],.agg #[.bool neg',.slice B m q,.int .i64 e'],.int .i64 p,.bool up] w (zol (zn2 ⟨neg,l,e⟩ ⟨neg',l',e'⟩ p up) w):=by
 obtain ⟨W0,eW,hb0,ka,kb,kr,kl⟩:=al4 w #[.bool neg,.slice A n c,.int .i64 e] 41 #[.bool neg',.slice B m q,.int .i64 e'] 41 #[.bool false,.slice none 0 0,.int .i64 0] 41 #[.bool neg,.slice A n c,.int .i64 e,.bool neg',.slice B m q,.int .i64 e'] 41;obtain ⟨p0,p1,p2⟩:=ka.cells3;obtain ⟨p3,p4,p5⟩:=kb.cells3;go_enter Tryz.func212,Tryz.ntmps212
 go_wp2_with fail
 clear eW;have HF:=Zh (znN p (some ⟨w.heap.size+1+1+1,0,none⟩) 2 2 [⟨neg,l,e⟩,⟨neg',l',e'⟩] W0 (zqC (d:=⟨neg,l,e⟩) (d':=⟨neg',l',e'⟩) kl (h.below hb0) (h'.below hb0)) (by omega) (by intro d hd;rcases List.mem_cons.1 hd with rfl | hd;show l.length<=1000;rw [h.len];exact hn;rw [List.mem_singleton.1 hd];show l'.length<=1000;rw [h'.len];exact hm));have HV:Hid (zn2 ⟨neg,l,e⟩ ⟨neg',l',e'⟩ p up=if znQ p [⟨neg,l,e⟩,⟨neg',l',e'⟩]=0 then (if l=[] then zoI ⟨neg',l',e'⟩ p up else if l' = [] then zoI ⟨neg,l,e⟩ p up else if zCU ⟨neg,l,e⟩<zCU ⟨neg',l',e'⟩ then addT ⟨neg',l',e'⟩ ⟨neg,l,e⟩ p up else addT ⟨neg,l,e⟩ ⟨neg',l',e'⟩ p up) else (zAZ,znQ p [⟨neg,l,e⟩,⟨neg',l',e'⟩])):=rfl;have HFZ:Hid (znQ p [⟨neg,l,e⟩,⟨neg',l',e'⟩]=0->(vld ⟨neg,l,e⟩=true/\vld ⟨neg',l',e'⟩=true)/\8<=p/\p<=512):=fun h0=>by
  have h1:=znC h0;exact ⟨⟨h1.1 _ (List.mem_cons_self ..),h1.1 _ (List.mem_cons_of_mem _ (List.mem_cons_self ..))⟩,h1.2⟩
 have hnl:l=[] ↔ n=0:=⟨fun e=>by rw [<- h.len,e];rfl,fun e=>h.empty e⟩;have hnl':l' = [] ↔ m=0:=⟨fun e=>by rw [<- h'.len,e];rfl,fun e=>h'.empty e⟩;have HH:=Zh (fun W (hb:Below w.heap.size w W)=>h.below hb);have HH':=Zh (fun W (hb:Below w.heap.size w W)=>h'.below hb);have HNL:=Zh hnl;have HNL':=Zh hnl';have HT:=Zh ht;have HB0:=Zh hb0;have HKA:=Zh ka;have HKB:=Zh kb;have HKR:=Zh kr;generalize znQ p [⟨neg,l,e⟩,⟨neg',l',e'⟩]=z at *;generalize zn2 ⟨neg,l,e⟩ ⟨neg',l',e'⟩ p up=PP at *;clear p0 p1 p2 p3 p4 p5 ka kb kr kl hb0 h h' ht hnl hnl';refine HF.out.mono ?_;rintro e1 w1 ⟨rfl,hb1⟩
 have HB1:=Zh hb1;clear hb1 HF;by_cases hq:z=0
 ·subst hq
  obtain ⟨hvv,h1,h2⟩:=HFZ.out rfl;have HVV:=Zh hvv;have HV1:Hid (PP=if l=[] then zoI ⟨neg',l',e'⟩ p up else if l' = [] then zoI ⟨neg,l,e⟩ p up else if zCU ⟨neg,l,e⟩<zCU ⟨neg',l',e'⟩ then addT ⟨neg',l',e'⟩ ⟨neg,l,e⟩ p up else addT ⟨neg,l,e⟩ ⟨neg',l',e'⟩ p up):=by unfold Hid;rw [HV.out,if_pos rfl]
  clear HV HFZ hvv;obtain ⟨p0,p1,p2⟩:=(HKA.out.next HB1.out).cells3;obtain ⟨p3,p4,p5⟩:=(HKB.out.next HB1.out).cells3;by_cases hn0:n=0
  ·have HV2:Hid (PP=zoI ⟨neg',l',e'⟩ p up):=by unfold Hid;rw [HV1.out,if_pos (HNL.out.2 hn0)]
   subst hn0;clear HV1;have HRR:=Zh (znP neg' B m q l' e' p up w1 (HH'.out _ (zAA HB0.out HB1.out)) hm (HT.out.next (zAA HB0.out HB1.out)));generalize zoI ⟨neg',l',e'⟩ p up=QQ at *;obtain ⟨qd,qz⟩:=QQ;go_wp2_with fail
   refine HRR.out.mono ?_;rintro e2 w2 ⟨A3,n3,c3,rfl,hs3,hb3⟩
   have kr:=HKR.out.next (zAA HB1.out hb3);obtain ⟨r0,r1,r2⟩:=kr.cells3;have f0:=kr.frozen 0;have f1:=kr.frozen 1;have f2:=kr.frozen 2;have HKR2:=Zh kr;clear kr;have HS3:=Zh (And.intro hs3.1 (hs3.2.mono (Yq HB0.out.size HB1.out.size)));have HB3:=Zh (zAA HB0.out (zAA HB1.out hb3));clear hs3 hb3 p0 p1 p2 p3 p4 p5 HRR;go_wp2_with fail
   rw [HV2.out];exact znD Tryz.results212 HKR2.out HS3.out HB3.out (by omega) rfl rfl
  ·have hn2:((n:Int) == 0)=false:=by simpa using hn0
   by_cases hm0:m=0
   ·have HV2:Hid (PP=zoI ⟨neg,l,e⟩ p up):=by unfold Hid;rw [HV1.out,if_neg (fun h=>hn0 (HNL.out.1 h)),if_pos (HNL'.out.2 hm0)]
    subst hm0;clear HV1;have HRR:=Zh (znP neg A n c l e p up w1 (HH.out _ (zAA HB0.out HB1.out)) hn (HT.out.next (zAA HB0.out HB1.out)));generalize zoI ⟨neg,l,e⟩ p up=QQ at *;obtain ⟨qd,qz⟩:=QQ;go_wp2_with fail
    refine HRR.out.mono ?_;rintro e2 w2 ⟨A3,n3,c3,rfl,hs3,hb3⟩
    have kr:=HKR.out.next (zAA HB1.out hb3);obtain ⟨r0,r1,r2⟩:=kr.cells3;have f0:=kr.frozen 0;have f1:=kr.frozen 1;have f2:=kr.frozen 2;have HKR2:=Zh kr;clear kr;have HS3:=Zh (And.intro hs3.1 (hs3.2.mono (Yq HB0.out.size HB1.out.size)));have HB3:=Zh (zAA HB0.out (zAA HB1.out hb3));clear hs3 hb3 p0 p1 p2 p3 p4 p5 HRR;go_wp2_with fail
    rw [HV2.out];exact znD Tryz.results212 HKR2.out HS3.out HB3.out (by omega) rfl rfl
   ·have hm2:((m:Int) == 0)=false:=by simpa using hm0
    have HV2:Hid (PP=if zCU ⟨neg,l,e⟩<zCU ⟨neg',l',e'⟩ then addT ⟨neg',l',e'⟩ ⟨neg,l,e⟩ p up else addT ⟨neg,l,e⟩ ⟨neg',l',e'⟩ p up):=by unfold Hid;rw [HV1.out,if_neg (fun h=>hn0 (HNL.out.1 h)),if_neg (fun h=>hm0 (HNL'.out.1 h))]
    have HLL:Hid (l≠[]/\l' ≠ []):=⟨fun h=>hn0 (HNL.out.1 h),fun h=>hm0 (HNL'.out.1 h)⟩;clear HV1 HNL HNL';go_upto_region 8 with fail
    have hB:=zAA HB1.out (zBw w1);have HK:Hid (∀V,Below W0.heap.size W0 V->(fun W=>Blk W w.heap.size 41 #[.bool neg,.slice A n c,.int .i64 e]/\Blk W (w.heap.size+1) 41 #[.bool neg',.slice B m q,.int .i64 e']) V):=fun V hV=>⟨HKA.out.next hV,HKB.out.next hV⟩
    have HKp:=Zh (HK.out _ hB);have HTA:=Zh (fun W (hb:Below w.heap.size w W)=>zBB neg A n c l e W (HH.out W hb) (by omega));have HTB:=Zh (fun W (hb:Below w.heap.size w W)=>zBB neg' B m q l' e' W (HH'.out W hb) (by omega));have HTD:Hid (∀x y:Int,x=zCU ⟨neg,l,e⟩->y=zCU ⟨neg',l',e'⟩->(PP=if x<y then addT ⟨neg',l',e'⟩ ⟨neg,l,e⟩ p up else addT ⟨neg,l,e⟩ ⟨neg',l',e'⟩ p up)/\(x<y->zCU ⟨neg,l,e⟩<=zCU ⟨neg',l',e'⟩)/\(¬ x<y->zCU ⟨neg',l',e'⟩<=zCU ⟨neg,l,e⟩)):=by rintro x y rfl rfl;exact ⟨HV2.out,fun h=>by omega,fun h=>by omega⟩
    clear HV2 p0 p1 p2 p3 p4 p5;obtain ⟨ta,hta⟩:∃x,x=zCU ⟨neg,l,e⟩:=⟨_,rfl⟩;obtain ⟨tb,htb⟩:∃x,x=zCU ⟨neg',l',e'⟩:=⟨_,rfl⟩;have HTD2:=Zh (HTD.out ta tb hta htb);rw [<- hta] at HTA;rw [<- htb] at HTB;clear hta htb HTD;have HCE:=Zh (fun (W:World) (hSw:(fun W=>Blk W w.heap.size 41 #[.bool neg,.slice A n c,.int .i64 e]/\Blk W (w.heap.size+1) 41 #[.bool neg',.slice B m q,.int .i64 e']) W)=>And.intro (Blk.cells3 hSw.1) (Blk.cells3 hSw.2));refine wp_region_held_drew (S:=(fun W=>Blk W w.heap.size 41 #[.bool neg,.slice A n c,.int .i64 e]/\Blk W (w.heap.size+1) 41 #[.bool neg',.slice B m q,.int .i64 e'])) (by kernel_rfl) (HKp.out) (fun hH=>?_);generalize w1.drew=Wd at *;refine tkc 0 HCE.out hH ?_;refine tkc 2 HCE.out hH ?_;simp only [Act.put,sT,sZ,sS];refine rdh 1 (fun K hK=>?_)
    go_simp
    refine (HTA.out _ (zAA HB0.out hB)).mono ?_;rintro e2 V1 ⟨rfl,hc⟩
    replace hB:=zAA hB hc;replace HKp:=Zh (HK.out _ hB);clear hc;go_wp2_with fail
    refine hK.out _ _ (HKp.out) (fun hH=>?_);clear hK K;refine rdh 3 (fun K hK=>?_)
    go_simp
    refine (HTB.out _ (zAA HB0.out hB)).mono ?_;rintro e2 V2 ⟨rfl,hc⟩
    replace hB:=zAA hB hc;replace HKp:=Zh (HK.out _ hB);clear hc;go_wp2_with fail
    refine hK.out _ _ (HKp.out) (fun hH=>?_);clear hK K;refine tkc 4 HCE.out hH ?_;simp only [Act.put,sT,sZ,sS];refine wpAnyH_done (by kernel_rfl) ?_ _
    go_upto_if 48 with fail
    go_cut [10] (fun s10 wx=>s10=.int .i64 0/\∃ (ng ng':Bool) (C D:Option Addr) (i j s t:Nat) (k k':List Nat) (x x':Int),Blk wx w.heap.size 41 #[.bool ng,.slice C i j,.int .i64 x]/\Blk wx (w.heap.size+1) 41 #[.bool ng',.slice D s t,.int .i64 x']/\SL wx C i j k/\SL wx D s t k'/\(vld ⟨ng,k,x⟩=true/\vld ⟨ng',k',x'⟩=true)/\(k≠[]/\k' ≠ [])/\zCU ⟨ng',k',x'⟩<=zCU ⟨ng,k,x⟩/\PP=addT ⟨ng,k,x⟩ ⟨ng',k',x'⟩ p up/\Blk wx (w.heap.size+1+1) 41 #[.bool false,.slice none 0 0,.int .i64 0]/\Below w.heap.size w wx)
    case first=>
     have HKR3:=Zh (HKR.out.next hB);have HBw:=Zh (zAA HB0.out hB);clear HK HTA HTB hB hH;by_cases hlt:ta<tb
     ·obtain ⟨p0,p1,p2⟩:=Blk.cells3 HKp.out.1
      obtain ⟨p3,p4,p5⟩:=Blk.cells3 HKp.out.2;have f0:=HKp.out.1.frozen 0;have f1:=HKp.out.1.frozen 1;have f2:=HKp.out.1.frozen 2;have g0:=HKp.out.2.frozen 0;have g1:=HKp.out.2.frozen 1;have g2:=HKp.out.2.frozen 2;go_wp2_with fail
      go_meet
      have hbx:=zAG (zAG HBw.out (Ya _) (.bool neg') (.slice B m q) (.int .i64 e')) (show w.heap.size<=w.heap.size+1 by omega) (.bool neg) (.slice A n c) (.int .i64 e);exact ⟨rfl,neg',neg,B,A,m,q,n,c,l',l,e',e,(((HKp.out.1.set3 _ _ _).far (by simp) _).far (by simp) _).far (by simp) _,(((HKp.out.2.far (by simp) _).far (by simp) _).far (by simp) _).set3 _ _ _,HH'.out _ hbx,HH.out _ hbx,⟨HVV.out.2,HVV.out.1⟩,⟨HLL.out.2,HLL.out.1⟩,HTD2.out.2.1 hlt,by rw [HTD2.out.1,if_pos hlt],
       (((((HKR3.out.far (by simp <;> omega) _).far (by simp <;> omega) _).far (by simp <;> omega) _).far (by simp <;> omega) _).far (by simp <;> omega) _).far (by simp <;> omega) _,hbx⟩
     ·have hlt2:=hlt
      go_wp2_with fail
      go_meet
      exact ⟨rfl,neg,neg',A,B,n,c,m,q,l,l',e,e',HKp.out.1,HKp.out.2,HH.out _ HBw.out,HH'.out _ HBw.out,HVV.out,HLL.out,HTD2.out.2.2 (by omega),by rw [HTD2.out.1,if_neg (by omega)],HKR3.out,HBw.out⟩
    case rest=>
     obtain ⟨rfl,ng,ng',C,D,i,j,s,t,k,k',x,x',k0,k1,hs0,hs1,hvv,hll,htt,hpp,kr,hbw⟩:=hcut;clear hn hm hn0 hm0 HH HH' HVV HLL HTD2 HK HKp HTA HTB hB hH HKA HKB HKR;have HSM:=Zh (fun W (hb:Below wc.heap.size wc W)=>zoi ng ng' C D i j s t k k' x x' p W (hs0.below hb) (hs1.below hb) hvv.1 hvv.2 hll.1 hll.2 htt h1 h2);have HCU:=Zh ((zoJ hvv.1 hvv.2 hll.1 hll.2 htt h1 h2).cuts (znX hvv.1).e2 h1 h2);have HPP:Hid (PP=if (znZ ⟨ng,k,x⟩ ⟨ng',k',x'⟩ p).1.m=0/\(znZ ⟨ng,k,x⟩ ⟨ng',k',x'⟩ p).1.more=false then (zAZ,0) else zn1 (ng != (znZ ⟨ng,k,x⟩ ⟨ng',k',x'⟩ p).2) (znZ ⟨ng,k,x⟩ ⟨ng',k',x'⟩ p).1.m (znZ ⟨ng,k,x⟩ ⟨ng',k',x'⟩ p).1.e p (znZ ⟨ng,k,x⟩ ⟨ng',k',x'⟩ p).1.more up):=hpp;generalize znZ ⟨ng,k,x⟩ ⟨ng',k',x'⟩ p=SP at *;obtain ⟨⟨sm,se,so⟩,st⟩:=SP
     (try dsimp only at HSM HCU HPP)
     have HK0:=Zh k0;have HKR3:=Zh kr;have HBw:=Zh hbw;obtain ⟨p0,p1,p2⟩:=k0.cells3;obtain ⟨p3,p4,p5⟩:=k1.cells3;clear k0 k1 hs0 hs1 hvv hll htt hpp kr hbw;go_wp2_with fail
     refine (HSM.out _ (Yp _ _)).mono ?_;rintro e2 w3 ⟨A3,n3,c3,rfl,hs3,hb3⟩
     have hn3:n3<=256:=by rw [<- hs3.len];exact zqU (n:=256) (by have:=HCU.out.m;omega)
     have hz:sm=0 ↔ n3=0:=by
      rw [<- hs3.len];constructor
      ·rintro rfl;rfl
      ·intro h0;rw [<- zAH sm,List.eq_nil_of_length_eq_zero h0];rfl
     have hx4:=zAE w3 (.cells #[.slice A3 n3 c3,.int .i64 se,.bool so] 290);have kx:=Blk.new w3 290 #[.slice A3 n3 c3,.int .i64 se,.bool so];have hb4:=zAA hb3 hx4;have HS4:=Zh (hs3.below hx4);have hcap3:=hs3.cap;have hmax3:=hs3.max;have HB4:=Zh (zAA HBw.out hb4);have HSG:=Zh (znH (ng != st) A3 n3 c3 (zAa sm) se p so up _ HS4.out hn3 (by rw [zAH];exact HCU.out) (HT.out.next HB4.out));rw [zAH] at HSG;generalize zn1 (ng != st) sm se p so up=SG at *;obtain ⟨gd,gz⟩:=SG;have HKR4:=Zh (HKR3.out.next hb4);have HZ:=Zh hz;clear p0 p1 p2 p3 p4 p5 HSM;obtain ⟨p0,p1,p2⟩:=(HK0.out.next hb4).cells3;obtain ⟨x0,x1,x2⟩:=kx.cells3;obtain ⟨r0,r1,r2⟩:=HKR4.out.cells3;have f0:=HKR4.out.frozen 0;have f1:=HKR4.out.frozen 1;have f2:=HKR4.out.frozen 2;clear hz hs3 hb3 hx4 hb4 kx;by_cases hc:n3=0/\so=false
     ·obtain ⟨hc0,rfl⟩:=hc
      have HV2:Hid (PP=(zAZ,0)):=by unfold Hid;rw [HPP.out,if_pos ⟨HZ.out.2 hc0,rfl⟩]
      subst hc0;go_wp2_with fail
      rw [HV2.out];exact znD Tryz.results212 HKR4.out ⟨SL.nil _,zAn.zero⟩ HB4.out (by omega) rfl rfl
     ·have HV2:Hid (PP=(gd,gz)):=by unfold Hid;rw [HPP.out,if_neg (fun h=>hc ⟨HZ.out.1 h.1,h.2⟩)]
      by_cases h0:n3=0
      ·subst h0
       obtain rfl:so=true:=by cases so;exact absurd ⟨rfl,rfl⟩ hc;rfl
       go_wp2_with fail
       refine HSG.out.mono ?_;rintro e2 w5 ⟨A5,n5,c5,rfl,hs5,hb5⟩
       have HS5:=Zh (And.intro hs5.1 (hs5.2.mono HB4.out.size));have HKR5:=Zh (HKR4.out.next hb5);have HB5:=Zh (zAA HB4.out hb5);clear r0 r1 r2 f0 f1 f2 p0 p1 p2 x0 x1 x2 hs5 hb5 HSG;obtain ⟨r0,r1,r2⟩:=HKR5.out.cells3;have f0:=HKR5.out.frozen 0;have f1:=HKR5.out.frozen 1;have f2:=HKR5.out.frozen 2;go_wp2_with fail
       rw [HV2.out];exact znD Tryz.results212 HKR5.out HS5.out HB5.out (by omega) rfl rfl
      ·have h02:((n3:Int) == 0)=false:=by simpa using h0
       go_wp2_with fail
       refine HSG.out.mono ?_;rintro e2 w5 ⟨A5,n5,c5,rfl,hs5,hb5⟩
       have HS5:=Zh (And.intro hs5.1 (hs5.2.mono HB4.out.size));have HKR5:=Zh (HKR4.out.next hb5);have HB5:=Zh (zAA HB4.out hb5);clear r0 r1 r2 f0 f1 f2 p0 p1 p2 x0 x1 x2 hs5 hb5 HSG;obtain ⟨r0,r1,r2⟩:=HKR5.out.cells3;have f0:=HKR5.out.frozen 0;have f1:=HKR5.out.frozen 1;have f2:=HKR5.out.frozen 2;go_wp2_with fail
       rw [HV2.out];exact znD Tryz.results212 HKR5.out HS5.out HB5.out (by omega) rfl rfl
 ·have hq2:(z != 0)=true:=by simpa using hq
  have HV2:Hid (PP=(zAZ,z)):=by unfold Hid;rw [HV.out,if_neg hq]
  have kr:=HKR.out.next (HB1.out);obtain ⟨r0,r1,r2⟩:=kr.cells3;have f0:=kr.frozen 0;have f1:=kr.frozen 1;have f2:=kr.frozen 2;have HKR2:=Zh kr;clear kr;go_wp2_with fail
  rw [HV2.out];exact znD Tryz.results212 HKR2.out ⟨SL.nil _,zAn.zero⟩ (zAA HB0.out HB1.out) (by omega) rfl rfl
theorem znd (neg neg':Bool) (A B:Option Addr) (n c m q:Nat) (l l':List Nat) (e e' p:Int) (w:World) (h:SL w A n c l) (h':SL w B m q l') (hn:n<=1000) (hm:m<=1000) (ht:zBx w) :
  Calls Tryz.prog 146 #[.agg #[.bool neg,.slice A n c,.int .i64 e],.agg #[.bool neg',.slice B m q,.int .i64 e'],.int .i64 p] w (zol (zn2 ⟨neg,l,e⟩ ⟨neg',l',e'⟩ p false) w):=by
 obtain ⟨W0,eW,hb0,ka,kb,kr⟩:=al3 w #[.bool neg,.slice A n c,.int .i64 e] 41 #[.bool neg',.slice B m q,.int .i64 e'] 41 #[.bool false,.slice none 0 0,.int .i64 0] 41;obtain ⟨p0,p1,p2⟩:=ka.cells3;obtain ⟨p3,p4,p5⟩:=kb.cells3;have HR:=Zh (fun W (hb:Below w.heap.size w W)=>zni neg neg' A B n c m q l l' e e' p false W (h.below hb) (h'.below hb) hn hm (ht.next hb));clear h h' ht;generalize zn2 ⟨neg,l,e⟩ ⟨neg',l',e'⟩ p false=PP at *;obtain ⟨pd,pz⟩:=PP;go_enter Tryz.func146,Tryz.ntmps146
 go_wp2_with fail
 clear eW;clear p0 p1 p2 p3 p4 p5;refine (HR.out _ hb0).mono ?_;rintro e2 w2 ⟨A3,n3,c3,rfl,hs3,hb3⟩
 have k2:=kr.next hb3;obtain ⟨r0,r1,r2⟩:=k2.cells3;have f0:=k2.frozen 0;have f1:=k2.frozen 1;have f2:=k2.frozen 2;have HKR2:=Zh k2;have HS3:=Zh (And.intro hs3.1 (hs3.2.mono hb0.size));have HB3:=Zh (zAA hb0 hb3);clear k2 hs3 hb3 hb0 ka kb kr;go_wp2_with fail
 exact znD Tryz.results146 HKR2.out HS3.out HB3.out (by omega) rfl rfl
theorem zny (neg neg':Bool) (A B:Option Addr) (n c m q:Nat) (l l':List Nat) (e e' p:Int) (w:World) (h:SL w A n c l) (h':SL w B m q l') (hn:n<=1000) (hm:m<=1000) (ht:zBx w) :
  Calls Tryz.prog 147 #[.agg #[.bool neg,.slice A n c,.int .i64 e],.agg #[.bool neg',.slice B m q,.int .i64 e'],.int .i64 p] w (zol (zn2 ⟨neg,l,e⟩ ⟨neg',l',e'⟩ p true) w):=by
 obtain ⟨W0,eW,hb0,ka,kb,kr⟩:=al3 w #[.bool neg,.slice A n c,.int .i64 e] 41 #[.bool neg',.slice B m q,.int .i64 e'] 41 #[.bool false,.slice none 0 0,.int .i64 0] 41;obtain ⟨p0,p1,p2⟩:=ka.cells3;obtain ⟨p3,p4,p5⟩:=kb.cells3;have HR:=Zh (fun W (hb:Below w.heap.size w W)=>zni neg neg' A B n c m q l l' e e' p true W (h.below hb) (h'.below hb) hn hm (ht.next hb));clear h h' ht;generalize zn2 ⟨neg,l,e⟩ ⟨neg',l',e'⟩ p true=PP at *;obtain ⟨pd,pz⟩:=PP;go_enter Tryz.func147,Tryz.ntmps147
 go_wp2_with fail
 clear eW;clear p0 p1 p2 p3 p4 p5;refine (HR.out _ hb0).mono ?_;rintro e2 w2 ⟨A3,n3,c3,rfl,hs3,hb3⟩
 have k2:=kr.next hb3;obtain ⟨r0,r1,r2⟩:=k2.cells3;have f0:=k2.frozen 0;have f1:=k2.frozen 1;have f2:=k2.frozen 2;have HKR2:=Zh k2;have HS3:=Zh (And.intro hs3.1 (hs3.2.mono hb0.size));have HB3:=Zh (zAA hb0 hb3);clear k2 hs3 hb3 hb0 ka kb kr;go_wp2_with fail
 exact znD Tryz.results147 HKR2.out HS3.out HB3.out (by omega) rfl rfl
theorem znj (neg neg':Bool) (A B:Option Addr) (n c m q:Nat) (l l':List Nat) (e e' p:Int) (up:Bool) (w:World) (h:SL w A n c l) (h':SL w B m q l') (hn:n<=1000) (hm:m<=1000) (ht:zBx w) :
  Calls Tryz.prog 355 #[.agg #[.bool neg,.slice A n c,.int .i64 e],.agg #[.bool neg',.slice B m q,.int .i64 e'],.int .i64 p,.bool up] w (zol (znO ⟨neg,l,e⟩ ⟨neg',l',e'⟩ p up) w):=by
 obtain ⟨W0,eW,hb0,ka,kb,kr,kl⟩:=al4 w #[.bool neg,.slice A n c,.int .i64 e] 41 #[.bool neg',.slice B m q,.int .i64 e'] 41 #[.bool false,.slice none 0 0,.int .i64 0] 41 #[.bool neg,.slice A n c,.int .i64 e,.bool neg',.slice B m q,.int .i64 e'] 41;obtain ⟨p0,p1,p2⟩:=ka.cells3;obtain ⟨p3,p4,p5⟩:=kb.cells3;go_enter Tryz.func355,Tryz.ntmps355
 go_wp2_with fail
 clear eW;have HF:=Zh (znN p (some ⟨w.heap.size+1+1+1,0,none⟩) 2 2 [⟨neg,l,e⟩,⟨neg',l',e'⟩] W0 (zqC (d:=⟨neg,l,e⟩) (d':=⟨neg',l',e'⟩) kl (h.below hb0) (h'.below hb0)) (by omega) (by intro d hd;rcases List.mem_cons.1 hd with rfl | hd;show l.length<=1000;rw [h.len];exact hn;rw [List.mem_singleton.1 hd];show l'.length<=1000;rw [h'.len];exact hm));have HV:Hid (znO ⟨neg,l,e⟩ ⟨neg',l',e'⟩ p up=if znQ p [⟨neg,l,e⟩,⟨neg',l',e'⟩]=0 then (if l=[]\/l' = [] then (zAZ,0) else zn1 (neg != neg') (val l*val l') (e+e') p false up) else (zAZ,znQ p [⟨neg,l,e⟩,⟨neg',l',e'⟩])):=rfl;have HFZ:Hid (znQ p [⟨neg,l,e⟩,⟨neg',l',e'⟩]=0->(vld ⟨neg,l,e⟩=true/\vld ⟨neg',l',e'⟩=true)/\8<=p/\p<=512):=fun h0=>by
  have h1:=znC h0;exact ⟨⟨h1.1 _ (List.mem_cons_self ..),h1.1 _ (List.mem_cons_of_mem _ (List.mem_cons_self ..))⟩,h1.2⟩
 have hnl:l=[] ↔ n=0:=⟨fun e=>by rw [<- h.len,e];rfl,fun e=>h.empty e⟩;have hnl':l' = [] ↔ m=0:=⟨fun e=>by rw [<- h'.len,e];rfl,fun e=>h'.empty e⟩;have HH:=Zh (fun W (hb:Below w.heap.size w W)=>h.below hb);have HH':=Zh (fun W (hb:Below w.heap.size w W)=>h'.below hb);have HVL:=Zh (fun (hv:vld ⟨neg,l,e⟩=true)=>(zHM h hv).1);have HVL':=Zh (fun (hv:vld ⟨neg',l',e'⟩=true)=>(zHM h' hv).1);have HNL:=Zh hnl;have HNL':=Zh hnl';have HT:=Zh ht;have HB0:=Zh hb0;have HKA:=Zh ka;have HKB:=Zh kb;have HKR:=Zh kr;generalize znQ p [⟨neg,l,e⟩,⟨neg',l',e'⟩]=z at *;generalize znO ⟨neg,l,e⟩ ⟨neg',l',e'⟩ p up=PP at *;clear p0 p1 p2 p3 p4 p5 ka kb kr kl hb0 h h' ht hnl hnl';refine HF.out.mono ?_;rintro e1 w1 ⟨rfl,hb1⟩
 have HB1:=Zh hb1;clear hb1 HF;by_cases hq:z=0
 ·subst hq
  obtain ⟨⟨hv,hv'⟩,h1,h2⟩:=HFZ.out rfl;have hn:=HVL.out hv;have hm:=HVL'.out hv';have hva:=znX hv;have hvb:=znX hv';have ea1:=hva.e1;have ea2:=hva.e2;have eb1:=hvb.e1;have eb2:=hvb.e2;have hma:=hva.m;have hmb:=hvb.m;dsimp only at ea1 ea2 eb1 eb2 hma hmb;have HCU:=Zh (zoN hv hv' h1 h2);have HV1:Hid (PP=if l=[]\/l' = [] then (zAZ,0) else zn1 (neg != neg') (val l*val l') (e+e') p false up):=by unfold Hid;rw [HV.out,if_pos rfl]
  clear HV HFZ hv hv' hva hvb HVL HVL';obtain ⟨p0,p1,p2⟩:=(HKA.out.next HB1.out).cells3;obtain ⟨p3,p4,p5⟩:=(HKB.out.next HB1.out).cells3;by_cases hn0:n=0
  ·have HV2:Hid (PP=(zAZ,0)):=by unfold Hid;rw [HV1.out,if_pos (Or.inl (HNL.out.2 hn0))]
   subst hn0;clear HV1;have kr:=HKR.out.next (HB1.out);obtain ⟨r0,r1,r2⟩:=kr.cells3;have f0:=kr.frozen 0;have f1:=kr.frozen 1;have f2:=kr.frozen 2;have HKR2:=Zh kr;clear kr;go_wp2_with fail
   rw [HV2.out];exact znD Tryz.results355 HKR2.out ⟨SL.nil _,zAn.zero⟩ (zAA HB0.out HB1.out) (by omega) rfl rfl
  ·have hn2:((n:Int) == 0)=false:=by simpa using hn0
   by_cases hm0:m=0
   ·have HV2:Hid (PP=(zAZ,0)):=by unfold Hid;rw [HV1.out,if_pos (Or.inr (HNL'.out.2 hm0))]
    subst hm0;clear HV1;have kr:=HKR.out.next (HB1.out);obtain ⟨r0,r1,r2⟩:=kr.cells3;have f0:=kr.frozen 0;have f1:=kr.frozen 1;have f2:=kr.frozen 2;have HKR2:=Zh kr;clear kr;go_wp2_with fail
    rw [HV2.out];exact znD Tryz.results355 HKR2.out ⟨SL.nil _,zAn.zero⟩ (zAA HB0.out HB1.out) (by omega) rfl rfl
   ·have hm2:((m:Int) == 0)=false:=by simpa using hm0
    have HV2:Hid (PP=zn1 (neg != neg') (val l*val l') (e+e') p false up):=by unfold Hid;rw [HV1.out,if_neg (fun h=>h.elim (fun h=>hn0 (HNL.out.1 h)) (fun h=>hm0 (HNL'.out.1 h)))]
    have hlp:(zAa (val l*val l')).length<=256:=zqU (n:=256) (by have:=HCU.out.m;omega);have HMU:=Zh (zRA A B n c m q l l' w1 (HH.out _ (zAA HB0.out HB1.out)) (HH'.out _ (zAA HB0.out HB1.out)) hn hm hlp);have HLP:=Zh hlp;have HSG:=Zh (fun (A3:Option Addr) (n3 c3:Nat) W (hb:Below w.heap.size w W) (hs:SL W A3 n3 c3 (zAa (val l*val l'))) (hn3:n3<=256)=>znH (neg != neg') A3 n3 c3 _ (e+e') p false up W hs hn3 (by rw [zAH];exact HCU.out) (HT.out.next hb));rw [zAH] at HSG;generalize zAa (val l*val l')=lm at *;generalize zn1 (neg != neg') (val l*val l') (e+e') p false up=SG at *;obtain ⟨gd,gz⟩:=SG;have hw:IntKind.i64.wrap (e+e')=e+e':=IntWalk.i64_in _ (by omega);clear HV1 HNL HNL' hlp;go_wp2_with fail
    refine HMU.out.mono ?_;rintro e2 w2 ⟨A3,n3,c3,rfl,hs3,-,hb3⟩
    have hn3:n3<=256:=by rw [<- hs3.len];exact HLP.out
    have HB3:=Zh (zAA HB0.out (zAA HB1.out hb3));have HSG2:=Zh (HSG.out A3 n3 c3 w2 HB3.out hs3 hn3);clear p0 p1 p2 p3 p4 p5 HMU HSG;obtain ⟨p0,p1,p2⟩:=(HKA.out.next (zAA HB1.out hb3)).cells3;obtain ⟨p3,p4,p5⟩:=(HKB.out.next (zAA HB1.out hb3)).cells3;have HB3':=Zh (zAA HB1.out hb3);clear hs3 hb3;go_wp2_with fail
    refine HSG2.out.mono ?_;rintro e2 w5 ⟨A5,n5,c5,rfl,hs5,hb5⟩
    have HS5:=Zh (And.intro hs5.1 (hs5.2.mono HB3.out.size));have HB5:=Zh (zAA HB3.out hb5);have kr:=HKR.out.next (zAA HB3'.out hb5);obtain ⟨r0,r1,r2⟩:=kr.cells3;have f0:=kr.frozen 0;have f1:=kr.frozen 1;have f2:=kr.frozen 2;have HKR2:=Zh kr;clear kr;clear hs5 hb5 p0 p1 p2 p3 p4 p5;go_wp2_with fail
    rw [HV2.out];exact znD Tryz.results355 HKR2.out HS5.out HB5.out (by omega) rfl rfl
 ·have hq2:(z != 0)=true:=by simpa using hq
  have HV2:Hid (PP=(zAZ,z)):=by unfold Hid;rw [HV.out,if_neg hq]
  have kr:=HKR.out.next (HB1.out);obtain ⟨r0,r1,r2⟩:=kr.cells3;have f0:=kr.frozen 0;have f1:=kr.frozen 1;have f2:=kr.frozen 2;have HKR2:=Zh kr;clear kr;go_wp2_with fail
  rw [HV2.out];exact znD Tryz.results355 HKR2.out ⟨SL.nil _,zAn.zero⟩ (zAA HB0.out HB1.out) (by omega) rfl rfl
theorem zne (neg neg':Bool) (A B:Option Addr) (n c m q:Nat) (l l':List Nat) (e e' p:Int) (w:World) (h:SL w A n c l) (h':SL w B m q l') (hn:n<=1000) (hm:m<=1000) (ht:zBx w) :
  Calls Tryz.prog 298 #[.agg #[.bool neg,.slice A n c,.int .i64 e],.agg #[.bool neg',.slice B m q,.int .i64 e'],.int .i64 p] w (zol (znO ⟨neg,l,e⟩ ⟨neg',l',e'⟩ p false) w):=by
 obtain ⟨W0,eW,hb0,ka,kb,kr⟩:=al3 w #[.bool neg,.slice A n c,.int .i64 e] 41 #[.bool neg',.slice B m q,.int .i64 e'] 41 #[.bool false,.slice none 0 0,.int .i64 0] 41;obtain ⟨p0,p1,p2⟩:=ka.cells3;obtain ⟨p3,p4,p5⟩:=kb.cells3;have HR:=Zh (fun W (hb:Below w.heap.size w W)=>znj neg neg' A B n c m q l l' e e' p false W (h.below hb) (h'.below hb) hn hm (ht.next hb));clear h h' ht;generalize znO ⟨neg,l,e⟩ ⟨neg',l',e'⟩ p false=PP at *;obtain ⟨pd,pz⟩:=PP;go_enter Tryz.func298,Tryz.ntmps298
 go_wp2_with fail
 clear eW;clear p0 p1 p2 p3 p4 p5;refine (HR.out _ hb0).mono ?_;rintro e2 w2 ⟨A3,n3,c3,rfl,hs3,hb3⟩
 have k2:=kr.next hb3;obtain ⟨r0,r1,r2⟩:=k2.cells3;have f0:=k2.frozen 0;have f1:=k2.frozen 1;have f2:=k2.frozen 2;have HKR2:=Zh k2;have HS3:=Zh (And.intro hs3.1 (hs3.2.mono hb0.size));have HB3:=Zh (zAA hb0 hb3);clear k2 hs3 hb3 hb0 ka kb kr;go_wp2_with fail
 exact znD Tryz.results298 HKR2.out HS3.out HB3.out (by omega) rfl rfl
theorem znz (neg neg':Bool) (A B:Option Addr) (n c m q:Nat) (l l':List Nat) (e e' p:Int) (w:World) (h:SL w A n c l) (h':SL w B m q l') (hn:n<=1000) (hm:m<=1000) (ht:zBx w) :
  Calls Tryz.prog 299 #[.agg #[.bool neg,.slice A n c,.int .i64 e],.agg #[.bool neg',.slice B m q,.int .i64 e'],.int .i64 p] w (zol (znO ⟨neg,l,e⟩ ⟨neg',l',e'⟩ p true) w):=by
 obtain ⟨W0,eW,hb0,ka,kb,kr⟩:=al3 w #[.bool neg,.slice A n c,.int .i64 e] 41 #[.bool neg',.slice B m q,.int .i64 e'] 41 #[.bool false,.slice none 0 0,.int .i64 0] 41;obtain ⟨p0,p1,p2⟩:=ka.cells3;obtain ⟨p3,p4,p5⟩:=kb.cells3;have HR:=Zh (fun W (hb:Below w.heap.size w W)=>znj neg neg' A B n c m q l l' e e' p true W (h.below hb) (h'.below hb) hn hm (ht.next hb));clear h h' ht;generalize znO ⟨neg,l,e⟩ ⟨neg',l',e'⟩ p true=PP at *;obtain ⟨pd,pz⟩:=PP;go_enter Tryz.func299,Tryz.ntmps299
 go_wp2_with fail
 clear eW;clear p0 p1 p2 p3 p4 p5;refine (HR.out _ hb0).mono ?_;rintro e2 w2 ⟨A3,n3,c3,rfl,hs3,hb3⟩
 have k2:=kr.next hb3;obtain ⟨r0,r1,r2⟩:=k2.cells3;have f0:=k2.frozen 0;have f1:=k2.frozen 1;have f2:=k2.frozen 2;have HKR2:=Zh k2;have HS3:=Zh (And.intro hs3.1 (hs3.2.mono hb0.size));have HB3:=Zh (zAA hb0 hb3);clear k2 hs3 hb3 hb0 ka kb kr;go_wp2_with fail
 exact znD Tryz.results299 HKR2.out HS3.out HB3.out (by omega) rfl rfl
def zqF (x:Iv) (w:World) (e:Ending) (w':World):Prop:=∃A n c B m d,e=.returned (.agg #[.bool x.lo.neg,.slice A n c,.int .i64 x.lo.e,.bool x.hi.neg,.slice B m d,.int .i64 x.hi.e,.bool x.all])/\SL w' A n c x.lo.l/\SL w' B m d x.hi.l/\Below w.heap.size w w'
theorem znA (b0 b1 b2:Bool) (B0 B1:Option Addr) (m0 q0 m1 q1:Nat) (i0 i1:Int):NoU #[.bool b0,.slice B0 m0 q0,.int .i64 i0,.bool b1,.slice B1 m1 q1,.int .i64 i1,.bool b2]:=by
 intro i x h
 match i,h with
 | 0,h=>simp at h
 | 1,h=>simp at h
 | 2,h=>simp at h
 | 3,h=>simp at h
 | 4,h=>simp at h
 | 5,h=>simp at h
 | 6,h=>simp at h
 | i+7,h=>simp at h
theorem zqA {fn:Func}{k:Nat}(h:fn.results=#[.cell k 43]) {tmps:Array Value}{W:World}{g:Nat}{t:TypeId}{x0 x1 x2 x3 x4 x5 x6:Value}(hk:tmps.getD k undef=.pointer (some ⟨g,0,none⟩)) (hB:Blk W g t #[x0,x1,x2,x3,x4,x5,x6]) :
  (results fn tmps).run Tryz.prog W=.ok (.agg #[x0,x1,x2,x3,x4,x5,x6]) W:=by
 obtain ⟨c0,c1,c2,c3,c4,c5,c6⟩:=hB.cells7;have hk':tmps[k]?.getD undef=.pointer (some ⟨g,0,none⟩):=by simpa using hk
 simp [results,h,hk',go_sem,c0,c1,c2,c3,c4,c5,c6]
theorem Blk.set7 {w:World}{g:Nat}{t:TypeId}{a0 a1 a2 a3 a4 a5 a6:Value}(h:Blk w g t #[a0,a1,a2,a3,a4,a5,a6]) (x0 x1 x2 x3 x4 x5 x6:Value) :
  Blk (((((((w.setCell ⟨g,0,none⟩ (x0)).setCell ⟨g,1,none⟩ (x1)).setCell ⟨g,2,none⟩ (x2)).setCell ⟨g,3,none⟩ (x3)).setCell ⟨g,4,none⟩ (x4)).setCell ⟨g,5,none⟩ (x5)).setCell ⟨g,6,none⟩ (x6)) g t #[x0,x1,x2,x3,x4,x5,x6]:=by
 have:=((((((h.set_ 0 x0).set_ 1 x1).set_ 2 x2).set_ 3 x3).set_ 4 x4).set_ 5 x5).set_ 6 x6
 simpa only [List.setIfInBounds_toArray,List.set_cons_zero,List.set_cons_succ] using this
theorem SL.past7 {w:World}{A:Option Addr}{n c g:Nat}{l:List Nat}(h:SL w A n c l) (ha:zqE g n A) (x0 x1 x2 x3 x4 x5 x6:Value):SL (((((((w.setCell ⟨g,0,none⟩ (x0)).setCell ⟨g,1,none⟩ (x1)).setCell ⟨g,2,none⟩ (x2)).setCell ⟨g,3,none⟩ (x3)).setCell ⟨g,4,none⟩ (x4)).setCell ⟨g,5,none⟩ (x5)).setCell ⟨g,6,none⟩ (x6)) A n c l:=
 ((((((h.past ha 0 x0).past ha 1 x1).past ha 2 x2).past ha 3 x3).past ha 4 x4).past ha 5 x5).past ha 6 x6
theorem zC0 {B:Nat}{w w':World}{g:Nat}(h:Below B w w') (hg:B<=g) (x0 x1 x2 x3 x4 x5 x6:Value):Below B w (((((((w'.setCell ⟨g,0,none⟩ (x0)).setCell ⟨g,1,none⟩ (x1)).setCell ⟨g,2,none⟩ (x2)).setCell ⟨g,3,none⟩ (x3)).setCell ⟨g,4,none⟩ (x4)).setCell ⟨g,5,none⟩ (x5)).setCell ⟨g,6,none⟩ (x6)):=
 ((((((h.setCell (p:=⟨g,0,none⟩) hg x0).setCell (p:=⟨g,1,none⟩) hg x1).setCell (p:=⟨g,2,none⟩) hg x2).setCell (p:=⟨g,3,none⟩) hg x3).setCell (p:=⟨g,4,none⟩) hg x4).setCell (p:=⟨g,5,none⟩) hg x5).setCell (p:=⟨g,6,none⟩) hg x6
theorem zpj {fn:Func}{k:Nat}(hr:fn.results=#[.cell k 43]) {tmps:Array Value}{w W:World}{g:Nat}{t:TypeId}{b0 b1 b2:Bool}{B0 B1:Option Addr}{m0 q0 m1 q1:Nat}{i0 i1:Int}{x:Iv}{A B:Option Addr}{n c m d:Nat}
  (hB:Blk W g t #[.bool b0,.slice B0 m0 q0,.int .i64 i0,.bool b1,.slice B1 m1 q1,.int .i64 i1,.bool b2]) (h1:SL W A n c x.lo.l) (h2:SL W B m d x.hi.l) (hb:Below w.heap.size w W) (hg:w.heap.size<=g) (hk:tmps.getD k undef=.pointer (some ⟨g,0,none⟩)) :
  bodyPost Tryz.prog fn (zqF x w) .ret { tmps:=tmps,defers:=[] } (((((((W.setCell ⟨g,0,none⟩ (.bool x.lo.neg)).setCell ⟨g,1,none⟩ (.slice A n c)).setCell ⟨g,2,none⟩ (.int .i64 x.lo.e)).setCell ⟨g,3,none⟩ (.bool x.hi.neg)).setCell ⟨g,4,none⟩ (.slice B m d)).setCell ⟨g,5,none⟩ (.int .i64 x.hi.e)).setCell ⟨g,6,none⟩ (.bool x.all)):=
 Yn (zqA hr hk (hB.set7 _ _ _ _ _ _ _)) rfl ⟨A,n,c,B,m,d,rfl,h1.past7 (h1.away hB (znA _ _ _ _ _ _ _ _ _ _ _)) _ _ _ _ _ _ _,h2.past7 (h2.away hB (znA _ _ _ _ _ _ _ _ _ _ _)) _ _ _ _ _ _ _,zC0 hb hg _ _ _ _ _ _ _⟩
def zpF (K:Nat) (x:Iv) (w:World) (e:Ending) (w':World):Prop:=∃A n c B m d,e=.returned (.agg #[.bool x.lo.neg,.slice A n c,.int .i64 x.lo.e,.bool x.hi.neg,.slice B m d,.int .i64 x.hi.e,.bool x.all])/\SL w' A n c x.lo.l/\SL w' B m d x.hi.l/\(zAn K A n/\zAn K B m)/\Below w.heap.size w w'
theorem znL {fn:Func}{k:Nat}(hr:fn.results=#[.cell k 43]) {tmps:Array Value}{w W:World}{g K:Nat}{t:TypeId}{b0 b1 b2:Bool}{B0 B1:Option Addr}{m0 q0 m1 q1:Nat}{i0 i1:Int}{x:Iv}{A B:Option Addr}{n c m d:Nat}
  (hB:Blk W g t #[.bool b0,.slice B0 m0 q0,.int .i64 i0,.bool b1,.slice B1 m1 q1,.int .i64 i1,.bool b2]) (h1:SL W A n c x.lo.l) (h2:SL W B m d x.hi.l) (hf:zAn K A n/\zAn K B m) (hb:Below w.heap.size w W) (hg:w.heap.size<=g) (hk:tmps.getD k undef=.pointer (some ⟨g,0,none⟩)) :
  bodyPost Tryz.prog fn (zpF K x w) .ret { tmps:=tmps,defers:=[] } (((((((W.setCell ⟨g,0,none⟩ (.bool x.lo.neg)).setCell ⟨g,1,none⟩ (.slice A n c)).setCell ⟨g,2,none⟩ (.int .i64 x.lo.e)).setCell ⟨g,3,none⟩ (.bool x.hi.neg)).setCell ⟨g,4,none⟩ (.slice B m d)).setCell ⟨g,5,none⟩ (.int .i64 x.hi.e)).setCell ⟨g,6,none⟩ (.bool x.all)):=
 Yn (zqA hr hk (hB.set7 _ _ _ _ _ _ _)) rfl ⟨A,n,c,B,m,d,rfl,h1.past7 (h1.away hB (znA _ _ _ _ _ _ _ _ _ _ _)) _ _ _ _ _ _ _,h2.past7 (h2.away hB (znA _ _ _ _ _ _ _ _ _ _ _)) _ _ _ _ _ _ _,hf,zC0 hb hg _ _ _ _ _ _ _⟩
theorem znG (p:Int) (w:World):Calls Tryz.prog 210 #[.int .i64 p] w fun e w'=>e=.returned (.bool (znB p))/\w' = w:=by
 by_cases h1:8<=p
 ·by_cases h2:p<=512
  ·have HV:Hid (znB p=true):=by unfold Hid znB;rw [Yf h1,Yf h2];rfl
   go_enter Tryz.func210,Tryz.ntmps210
   go_wp2_with fail
   go_ret;exact ⟨by rw [HV.out];rfl,rfl⟩
  ·have HV:Hid (znB p=false):=by unfold Hid znB;rw [Yf h1,Ye h2];rfl
   go_enter Tryz.func210,Tryz.ntmps210
   go_wp2_with fail
   go_ret;exact ⟨by rw [HV.out];rfl,rfl⟩
 ·have HV:Hid (znB p=false):=by unfold Hid znB;rw [Ye h1];rfl
  go_enter Tryz.func210,Tryz.ntmps210
  go_wp2_with fail
  go_ret;exact ⟨by rw [HV.out];rfl,rfl⟩
theorem zlc (K:Nat) (w:World):Calls Tryz.prog 235 #[] w (zpF K whl w):=by
 go_enter Tryz.func235,Tryz.ntmps235
 go_wp2_with fail
 refine Yn (zqA Tryz.results235 rfl (Blk.new w 43 #[.bool false,.slice none 0 0,.int .i64 0,.bool false,.slice none 0 0,.int .i64 0,.bool true])) rfl ?_;exact ⟨none,0,0,none,0,0,rfl,SL.nil _,SL.nil _,⟨zAn.zero,zAn.zero⟩,zAE _ _⟩
theorem zob (w:World):Calls Tryz.prog 235 #[] w (zqF whl w):=(zlc 0 w).mono (fun e w' ⟨A,n,c,B,m,d,h1,h2,h3,_,h4⟩=>⟨A,n,c,B,m,d,h1,h2,h3,h4⟩)
theorem zo1 (K:Nat) (lo hi:Dy) (e f:Int) (A B:Option Addr) (n c m q:Nat) (w:World) (h:SL w A n c lo.l) (h':SL w B m q hi.l) (hfA:zAn K A n) (hfB:zAn K B m) :
  Calls Tryz.prog 236 #[.agg #[.bool lo.neg,.slice A n c,.int .i64 lo.e],.int .i64 e,.agg #[.bool hi.neg,.slice B m q,.int .i64 hi.e],.int .i64 f] w (zpF K (mdI (lo,e) (hi,f)) w):=by
 obtain ⟨W0,eW,hb0,ka,kb,kr⟩:=al3 w #[.bool lo.neg,.slice A n c,.int .i64 lo.e] 41 #[.bool hi.neg,.slice B m q,.int .i64 hi.e] 41 #[.bool false,.slice none 0 0,.int .i64 0,.bool false,.slice none 0 0,.int .i64 0,.bool false] 43;have HV:Hid (mdI (lo,e) (hi,f)=if e=0/\f=0 then ⟨lo,hi,false⟩ else whl):=rfl;generalize mdI (lo,e) (hi,f)=PP at *;have HS:=Zh (h.below hb0);have HS':=Zh (h'.below hb0);have HB0:=Zh hb0;have HF:=Zh (And.intro hfA hfB);clear h h' hb0 hfA hfB;go_enter Tryz.func236,Tryz.ntmps236
 go_upto_region 1 with fail
 clear eW;obtain ⟨p0,p1,p2⟩:=ka.cells3;obtain ⟨p3,p4,p5⟩:=kb.cells3;have HKR:=Zh kr;clear ka kb kr;by_cases he:e=0
 ·subst he
  by_cases hf:f=0
  ·subst hf
   have HV2:Hid (PP=⟨lo,hi,false⟩):=by unfold Hid;rw [HV.out,if_pos ⟨rfl,rfl⟩]
   have kr:=HKR.out;obtain ⟨r0,r1,r2,r3,r4,r5,r6⟩:=kr.cells7;have f0:=kr.frozen 0;have f1:=kr.frozen 1;have f2:=kr.frozen 2;have f3:=kr.frozen 3;have f4:=kr.frozen 4;have f5:=kr.frozen 5;have f6:=kr.frozen 6;have HKR2:=Zh kr;clear kr;go_wp2_with fail
   rw [HV2.out];exact znL Tryz.results236 HKR2.out HS.out HS'.out HF.out HB0.out (by omega) rfl
  ·have hf2:(f != 0)=true:=by simpa using hf
   have HV2:Hid (PP=whl):=by unfold Hid;rw [HV.out,if_neg (fun h=>hf h.2)]
   go_wp2_with fail
   refine (zlc K _).mono ?_;rintro e2 w2 ⟨A3,n3,c3,B3,m3,q3,rfl,hs3,hs4,hff,hb3⟩
   have HFF:=Zh hff;have kr:=HKR.out.next hb3;obtain ⟨r0,r1,r2,r3,r4,r5,r6⟩:=kr.cells7;have f0:=kr.frozen 0;have f1:=kr.frozen 1;have f2:=kr.frozen 2;have f3:=kr.frozen 3;have f4:=kr.frozen 4;have f5:=kr.frozen 5;have f6:=kr.frozen 6;have HKR2:=Zh kr;clear kr;clear p0 p1 p2 p3 p4 p5;have HB3:=Zh (zAA HB0.out hb3);have HS3:=Zh hs3;have HS4:=Zh hs4;clear hs3 hs4 hb3 hff;go_wp2_with fail
   rw [HV2.out];exact znL Tryz.results236 HKR2.out HS3.out HS4.out HFF.out HB3.out (by omega) rfl
 ·have he2:(e != 0)=true:=by simpa using he
  have HV2:Hid (PP=whl):=by unfold Hid;rw [HV.out,if_neg (fun h=>he h.1)]
  go_wp2_with fail
  refine (zlc K _).mono ?_;rintro e2 w2 ⟨A3,n3,c3,B3,m3,q3,rfl,hs3,hs4,hff,hb3⟩
  have HFF:=Zh hff;have kr:=HKR.out.next hb3;obtain ⟨r0,r1,r2,r3,r4,r5,r6⟩:=kr.cells7;have f0:=kr.frozen 0;have f1:=kr.frozen 1;have f2:=kr.frozen 2;have f3:=kr.frozen 3;have f4:=kr.frozen 4;have f5:=kr.frozen 5;have f6:=kr.frozen 6;have HKR2:=Zh kr;clear kr;clear p0 p1 p2 p3 p4 p5;have HB3:=Zh (zAA HB0.out hb3);have HS3:=Zh hs3;have HS4:=Zh hs4;clear hs3 hs4 hb3 hff;go_wp2_with fail
  rw [HV2.out];exact znL Tryz.results236 HKR2.out HS3.out HS4.out HFF.out HB3.out (by omega) rfl
theorem zng (A:Option Addr) (n c:Nat) (xs:List Iv) (w:World) (h:Sl 7 RI w A n c xs) (hn:n<=1000) (hd:∀x∈xs,BdI x) :
  Calls Tryz.prog 209 #[.slice A n c] w (zBW (knw xs) w):=by
 have HS:=Zh h;have HD:=Zh hd;have HL:=Zh h.len;have m1:=h.cap;have m2:=h.max;clear h hd;go_enter Tryz.func209,Tryz.ntmps209
 go_wp2_with fail
 go_loopw [7] (fun i wr=>∃k:Nat,k<=n/\i=.int .i64 k/\Hid (Below w.heap.size w wr)/\Hid (knw (xs.take k)=true)) (fun i _=>n - (intOf i).toNat)
 case atStart=>exact ⟨0,by omega,rfl,Yp _ _,by simp [Hid,knw]⟩
 case round=>
  obtain ⟨k,hk,rfl,HB,HA⟩:=hrel;by_cases hlt:k<n
  ·obtain ⟨b,off,x,us,rfl,hbl,hdk,hu7,hR,hc⟩:=HS.out.get hlt
   have HBd:=Zh (HD.out x (Yk hdk));have hR0:=hR;obtain ⟨A1,n1,c1,A2,n2,c2,rfl,hs1,hs2⟩:=hR;have q0:=(HB.out.cell (p:=⟨b,off+k*7,none⟩) hbl).trans (hc 0 _ rfl);have q1:=(HB.out.cell (p:=⟨b,off+k*7+1,none⟩) hbl).trans (hc 1 _ rfl);have q2:=(HB.out.cell (p:=⟨b,off+k*7+2,none⟩) hbl).trans (hc 2 _ rfl);have q3:=(HB.out.cell (p:=⟨b,off+k*7+3,none⟩) hbl).trans (hc 3 _ rfl);have q4:=(HB.out.cell (p:=⟨b,off+k*7+4,none⟩) hbl).trans (hc 4 _ rfl);have q5:=(HB.out.cell (p:=⟨b,off+k*7+5,none⟩) hbl).trans (hc 5 _ rfl);have q6:=(HB.out.cell (p:=⟨b,off+k*7+6,none⟩) hbl).trans (hc 6 _ rfl);have hb1:=zAE wr (.cells #[.bool x.lo.neg,.slice A1 n1 c1,.int .i64 x.lo.e,.bool x.hi.neg,.slice A2 n2 c2,.int .i64 x.hi.e,.bool x.all] 43);have hbb:=HB.out.trans (hb1.mono HB.out.size);have HV:=Zh (zD9 [.bool x.lo.neg,.slice A1 n1 c1,.int .i64 x.lo.e,.bool x.hi.neg,.slice A2 n2 c2,.int .i64 x.hi.e,.bool x.all] x _ (zAX _ _ _ _ hR0 hbb) HBd.out);have HBB:=Zh hbb;have HKX:=Zh (Blk.new wr 43 #[.bool x.lo.neg,.slice A1 n1 c1,.int .i64 x.lo.e,.bool x.hi.neg,.slice A2 n2 c2,.int .i64 x.hi.e,.bool x.all]);have HT:Hid (knw (xs.take (k+1))=(!x.all && ivV x)):=by
    unfold Hid;have e:xs.take (k+1)=xs.take k++[x]:=by rw [List.take_add_one,hdk];rfl
    have h1:=HA.out;unfold knw at h1 ⊢;rw [e,List.all_append,h1];simp
   have HF:Hid ((!x.all && ivV x)=false->knw xs=false):=fun h0=>by
    unfold knw;rw [List.all_eq_false];exact ⟨x,Yk hdk,by rw [h0];exact Bool.false_ne_true⟩
   clear hc hu7 hdk hs1 hs2 hb1 hbb hR0;go_upto_region 4 with fail
   clear q0 q1 q2 q3 q4 q5 q6;generalize wr.alloc (.cells #[.bool x.lo.neg,.slice A1 n1 c1,.int .i64 x.lo.e,.bool x.hi.neg,.slice A2 n2 c2,.int .i64 x.hi.e,.bool x.all] 43)=W1 at *;obtain ⟨x0,x1,x2,x3,x4,x5,x6⟩:=Blk.cells7 HKX.out;cases ha:x.all
   ·rw [ha] at HT HF
    rw [ha] at x6 HV;cases hv:ivV x
    ·rw [hv] at HT HF HV
     go_wp2_with fail
     refine HV.out.mono ?_;rintro e w1 ⟨rfl,hb1⟩
     go_wp2_with fail
     go_ret;exact ⟨by rw [HF.out rfl];rfl,HBB.out.trans (hb1.mono HBB.out.size)⟩
    ·rw [hv] at HT HF HV
     go_wp2_with fail
     refine HV.out.mono ?_;rintro e w1 ⟨rfl,hb1⟩
     go_wp2_with fail
     go_roundw
     case rel=>exact ⟨k+1,by omega,by go_num,HBB.out.trans (hb1.mono HBB.out.size),by unfold Hid;rw [HT.out];rfl⟩
     case measure=>simp [intOf];omega
   ·rw [ha] at HT HF x6
    go_wp2_with fail
    go_ret;exact ⟨by rw [HF.out rfl];rfl,HBB.out⟩
  ·obtain rfl:n=k:=by omega
   have hall:knw xs=true:=by
    have:=HA.out;rw [Xe (by rw [HL.out];exact Ya _)] at this;exact this
   go_wp2_with fail
   go_ret;exact ⟨by rw [hall];rfl,HB.out⟩
theorem zqD {W:World}{g:Nat}{t:TypeId}{x y:Iv}{A1 B1 A2 B2:Option Addr}{n1 c1 m1 d1 n2 c2 m2 d2:Nat}(hk:Blk W g t #[.bool x.lo.neg,.slice A1 n1 c1,.int .i64 x.lo.e,.bool x.hi.neg,.slice B1 m1 d1,.int .i64 x.hi.e,.bool x.all,.bool y.lo.neg,.slice A2 n2 c2,.int .i64 y.lo.e,.bool y.hi.neg,.slice B2 m2 d2,.int .i64 y.hi.e,.bool y.all]) (h1:SL W A1 n1 c1 x.lo.l) (h2:SL W B1 m1 d1 x.hi.l) (h3:SL W A2 n2 c2 y.lo.l) (h4:SL W B2 m2 d2 y.hi.l):Sl 7 RI W (some ⟨g,0,none⟩) 2 2 [x,y]:=
 ⟨rfl,by omega,by omega,fun _=>⟨g,0,rfl,hk.lt,fun j z hz=>by
  match j,hz with
  | 0,hz=>
   simp at hz;subst hz;exact ⟨[.bool x.lo.neg,.slice A1 n1 c1,.int .i64 x.lo.e,.bool x.hi.neg,.slice B1 m1 d1,.int .i64 x.hi.e,.bool x.all],rfl,⟨A1,n1,c1,B1,m1,d1,rfl,h1,h2⟩,fun i v hv=>by
    rw [show (⟨g,0+0*7+i,none⟩:Addr)=⟨g,i,none⟩ from by simp,hk.cell]
    match i,hv with
    | 0,hv=>exact hv
    | 1,hv=>exact hv
    | 2,hv=>exact hv
    | 3,hv=>exact hv
    | 4,hv=>exact hv
    | 5,hv=>exact hv
    | 6,hv=>exact hv
    | i+7,hv=>simp at hv⟩
  | 1,hz=>
   simp at hz;subst hz;exact ⟨[.bool y.lo.neg,.slice A2 n2 c2,.int .i64 y.lo.e,.bool y.hi.neg,.slice B2 m2 d2,.int .i64 y.hi.e,.bool y.all],rfl,⟨A2,n2,c2,B2,m2,d2,rfl,h3,h4⟩,fun i v hv=>by
    rw [show (⟨g,0+1*7+i,none⟩:Addr)=⟨g,7+i,none⟩ from by simp,hk.cell]
    match i,hv with
    | 0,hv=>exact hv
    | 1,hv=>exact hv
    | 2,hv=>exact hv
    | 3,hv=>exact hv
    | 4,hv=>exact hv
    | 5,hv=>exact hv
    | 6,hv=>exact hv
    | i+7,hv=>simp at hv⟩
  | j+2,hz=>simp at hz⟩⟩
theorem zoR (x y:Iv) (p:Int) (A1 B1 A2 B2:Option Addr) (n1 c1 m1 d1 n2 c2 m2 d2:Nat) (w:World) (h1:SL w A1 n1 c1 x.lo.l) (h2:SL w B1 m1 d1 x.hi.l) (h3:SL w A2 n2 c2 y.lo.l) (h4:SL w B2 m2 d2 y.hi.l) (hx:BdI x) (hy:BdI y) (ht:zBx w) :
  Calls Tryz.prog 164 #[.agg #[.bool x.lo.neg,.slice A1 n1 c1,.int .i64 x.lo.e,.bool x.hi.neg,.slice B1 m1 d1,.int .i64 x.hi.e,.bool x.all],.agg #[.bool y.lo.neg,.slice A2 n2 c2,.int .i64 y.lo.e,.bool y.hi.neg,.slice B2 m2 d2,.int .i64 y.hi.e,.bool y.all],.int .i64 p] w (zpF w.heap.size (znT x y p) w):=by
 obtain ⟨W0,eW,hb0,ka,kb,kr,kl⟩:=al4 w #[.bool x.lo.neg,.slice A1 n1 c1,.int .i64 x.lo.e,.bool x.hi.neg,.slice B1 m1 d1,.int .i64 x.hi.e,.bool x.all] 43 #[.bool y.lo.neg,.slice A2 n2 c2,.int .i64 y.lo.e,.bool y.hi.neg,.slice B2 m2 d2,.int .i64 y.hi.e,.bool y.all] 43 #[.bool false,.slice none 0 0,.int .i64 0,.bool false,.slice none 0 0,.int .i64 0,.bool false] 43 #[.bool x.lo.neg,.slice A1 n1 c1,.int .i64 x.lo.e,.bool x.hi.neg,.slice B1 m1 d1,.int .i64 x.hi.e,.bool x.all,.bool y.lo.neg,.slice A2 n2 c2,.int .i64 y.lo.e,.bool y.hi.neg,.slice B2 m2 d2,.int .i64 y.hi.e,.bool y.all] 43;obtain ⟨p0,p1,p2,p3,p4,p5,p6⟩:=ka.cells7;obtain ⟨q0,q1,q2,q3,q4,q5,q6⟩:=kb.cells7;have hl1:n1<=1000:=by have:=h1.len;have:=hx.1;unfold Bd at this;omega
 have hl2:m1<=1000:=by have:=h2.len;have:=hx.2;unfold Bd at this;omega
 have hl3:n2<=1000:=by have:=h3.len;have:=hy.1;unfold Bd at this;omega
 have hl4:m2<=1000:=by have:=h4.len;have:=hy.2;unfold Bd at this;omega
 have HLO:=Zh (fun W (hb:Below w.heap.size w W)=>znd x.lo.neg y.lo.neg A1 A2 n1 c1 n2 c2 x.lo.l y.lo.l x.lo.e y.lo.e p W (h1.below hb) (h3.below hb) hl1 hl3 (ht.next hb));have HHI:=Zh (fun W (hb:Below w.heap.size w W)=>zny x.hi.neg y.hi.neg B1 B2 m1 d1 m2 d2 x.hi.l y.hi.l x.hi.e y.hi.e p W (h2.below hb) (h4.below hb) hl2 hl4 (ht.next hb));have HKN:=Zh (zng (some ⟨w.heap.size+1+1+1,0,none⟩) 2 2 [x,y] _ (zqD kl (h1.below hb0) (h2.below hb0) (h3.below hb0) (h4.below hb0)) (by omega) (by intro z hz;rcases List.mem_cons.1 hz with rfl | hz;exact hx;rw [List.mem_singleton.1 hz];exact hy));have HV:Hid (znT x y p=if (knw [x,y] && znB p)=true then mdI (zn2 x.lo y.lo p false) (zn2 x.hi y.hi p true) else whl):=rfl;have HPR:=Zh (fun W=>znG p W)
 (try dsimp only at HLO HHI)
 generalize znT x y p=PP at *;generalize zn2 x.lo y.lo p false=LO at *;generalize zn2 x.hi y.hi p true=HI at *;obtain ⟨lo,le⟩:=LO;obtain ⟨hi,he⟩:=HI
 (try dsimp only at HLO HHI HV)
 clear h1 h2 h3 h4 hx hy ht;go_enter Tryz.func164,Tryz.ntmps164
 go_wp2_with fail
 clear eW;clear p0 p1 p2 p3 p4 p5 p6 q0 q1 q2 q3 q4 q5 q6;have HB0:=Zh hb0;have HKA:=Zh ka;have HKB:=Zh kb;have HKR:=Zh kr;clear ka kb kr kl hb0;refine HKN.out.mono ?_;rintro e w1 ⟨rfl,hb1⟩
 have HB1:=Zh hb1;clear hb1 HKN;cases hk:knw [x,y]
 ·have HV2:Hid (PP=whl):=by unfold Hid;rw [HV.out,hk];rfl
  clear HLO HHI HV hk;go_wp2_with fail
  refine (zlc w.heap.size _).mono ?_;rintro e2 w2 ⟨A3,n3,c3,B3,m3,q3,rfl,hs3,hs4,hff,hb3⟩
  have HFF:=Zh hff;have kr:=HKR.out.next (zAA HB1.out hb3);obtain ⟨r0,r1,r2,r3,r4,r5,r6⟩:=kr.cells7;have f0:=kr.frozen 0;have f1:=kr.frozen 1;have f2:=kr.frozen 2;have f3:=kr.frozen 3;have f4:=kr.frozen 4;have f5:=kr.frozen 5;have f6:=kr.frozen 6;have HKR2:=Zh kr;clear kr;have HB3:=Zh (zAA HB0.out (zAA HB1.out hb3));have HS3:=Zh hs3;have HS4:=Zh hs4;clear hs3 hs4 hb3 hff;go_wp2_with fail
  rw [HV2.out];exact znL Tryz.results164 HKR2.out HS3.out HS4.out HFF.out HB3.out (by omega) rfl
 ·cases hp:znB p
  ·have HV2:Hid (PP=whl):=by unfold Hid;rw [HV.out,hk,hp];rfl
   rw [hp] at HPR;clear HLO HHI HV hk hp;go_wp2_with fail
   refine (HPR.out w1).mono ?_;rintro e w9 ⟨rfl,rfl⟩
   go_wp2_with fail
   refine (zlc w.heap.size _).mono ?_;rintro e2 w2 ⟨A3,n3,c3,B3,m3,q3,rfl,hs3,hs4,hff,hb3⟩
   have HFF:=Zh hff;have kr:=HKR.out.next (zAA HB1.out hb3);obtain ⟨r0,r1,r2,r3,r4,r5,r6⟩:=kr.cells7;have f0:=kr.frozen 0;have f1:=kr.frozen 1;have f2:=kr.frozen 2;have f3:=kr.frozen 3;have f4:=kr.frozen 4;have f5:=kr.frozen 5;have f6:=kr.frozen 6;have HKR2:=Zh kr;clear kr;have HB3:=Zh (zAA HB0.out (zAA HB1.out hb3));have HS3:=Zh hs3;have HS4:=Zh hs4;clear hs3 hs4 hb3 hff;go_wp2_with fail
   rw [HV2.out];exact znL Tryz.results164 HKR2.out HS3.out HS4.out HFF.out HB3.out (by omega) rfl
  ·have HV2:Hid (PP=mdI (lo,le) (hi,he)):=by unfold Hid;rw [HV.out,hk,hp];rfl
   rw [hp] at HPR;clear HV hk hp;go_wp2_with fail
   refine (HPR.out w1).mono ?_;rintro e w9 ⟨rfl,rfl⟩
   obtain ⟨p0,p1,p2,p3,p4,p5,p6⟩:=(HKA.out.next HB1.out).cells7;obtain ⟨q0,q1,q2,q3,q4,q5,q6⟩:=(HKB.out.next HB1.out).cells7;go_wp2_with fail
   refine (HLO.out _ (zAA HB0.out HB1.out)).mono ?_;rintro e w2 ⟨A3,n3,c3,rfl,hs3,hb2⟩
   have hx2:=zAE w2 (.cells #[.bool lo.neg,.slice A3 n3 c3,.int .i64 lo.e] 41);have HKL:=Zh (Blk.new w2 41 #[.bool lo.neg,.slice A3 n3 c3,.int .i64 lo.e]);have HBa:=Zh (zAA HB1.out (zAA hb2 hx2));have HS3:=Zh (hs3.1.below hx2);have HF3:=Zh (hs3.2.mono (show w.heap.size<=_ from (zAA HB0.out HB1.out).size));clear p0 p1 p2 p3 p4 p5 p6 q0 q1 q2 q3 q4 q5 q6 hs3 hb2 hx2 HLO;go_upto_region 4 with fail
   generalize w2.alloc (.cells #[.bool lo.neg,.slice A3 n3 c3,.int .i64 lo.e] 41)=W2 at *;obtain ⟨p0,p1,p2,p3,p4,p5,p6⟩:=(HKA.out.next HBa.out).cells7;obtain ⟨q0,q1,q2,q3,q4,q5,q6⟩:=(HKB.out.next HBa.out).cells7;go_wp2_with fail
   refine (HHI.out _ (zAA HB0.out HBa.out)).mono ?_;rintro e w3 ⟨A4,n4,c4,rfl,hs4,hb3⟩
   have hx3:=zAE w3 (.cells #[.bool hi.neg,.slice A4 n4 c4,.int .i64 hi.e] 41);have HKL2:=Zh ((HKL.out.next hb3).next hx3);have HKH:=Zh (Blk.new w3 41 #[.bool hi.neg,.slice A4 n4 c4,.int .i64 hi.e]);have HBb:=Zh (zAA HBa.out (zAA hb3 hx3));have HS3':=Zh (HS3.out.below (zAA hb3 hx3));have HS4:=Zh (hs4.1.below hx3);have HF4:=Zh (hs4.2.mono (show w.heap.size<=_ from (zAA HB0.out HBa.out).size));clear p0 p1 p2 p3 p4 p5 p6 q0 q1 q2 q3 q4 q5 q6 hs4 hb3 hx3 HHI HS3 HKL;go_upto_region 5 with fail
   generalize w3.alloc (.cells #[.bool hi.neg,.slice A4 n4 c4,.int .i64 hi.e] 41)=W3 at *;obtain ⟨l0,l1,l2⟩:=HKL2.out.cells3;obtain ⟨h0,h1,h2⟩:=HKH.out.cells3;go_wp2_with fail
   refine (zo1 w.heap.size lo hi le he A3 A4 n3 c3 n4 c4 _ HS3'.out HS4.out HF3.out HF4.out).mono ?_;rintro e w4 ⟨A5,n5,c5,B5,m5,d5,rfl,hs5,hs6,hff,hb4⟩
   have HFF:=Zh hff;clear l0 l1 l2 h0 h1 h2;have kr:=HKR.out.next (zAA HBb.out hb4);obtain ⟨r0,r1,r2,r3,r4,r5,r6⟩:=kr.cells7;have f0:=kr.frozen 0;have f1:=kr.frozen 1;have f2:=kr.frozen 2;have f3:=kr.frozen 3;have f4:=kr.frozen 4;have f5:=kr.frozen 5;have f6:=kr.frozen 6;have HKR2:=Zh kr;clear kr;have HB5:=Zh (zAA HB0.out (zAA HBb.out hb4));have HS5:=Zh hs5;have HS6:=Zh hs6;clear hs5 hs6 hb4 hff;go_wp2_with fail
   rw [HV2.out];exact znL Tryz.results164 HKR2.out HS5.out HS6.out HFF.out HB5.out (by omega) rfl
end Go.Proofs.YtchkfjgcbbbffaaGreatDoor
end
