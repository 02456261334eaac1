/- Bundle 15: what the law's walk stands on: S11, S12, S14, Q31, Q32. -/
import Derived.Test.YtchkfjgcbbbffaaGreatDoorZ9
import Derived.Test.YtchkfjgcbbbffaaGreatDoorZ11
import Derived.Test.YtchkfjgcbbbffaaGreatDoorZ12
import Derived.Test.YtchkfjgcbbbffaaGreatDoorZ13
import Derived.Test.YtchkfjgcbbbffaaGreatDoorZ14
set_option maxRecDepth 100000
set_option maxHeartbeats 20000000
set_option linter.all false
noncomputable section
namespace Go.Proofs.YtchkfjgcbbbffaaGreatDoor
open Go.RowKit Pl Go.Shelf
def New (G:Nat->Prop) (w w':World) (b:Nat):Prop:=b<w'.heap.size/\(G b\/w.heap.size<=b)
theorem zeU {E:Nat}{G:Nat->Prop}{w:World}{A:Option Addr}{n c:Nat}{l:List Nat}(h:On E G w (fun W=>SL W A n c l)) (hE:E<=w.heap.size) (hn:0<n):∃b off,A=some ⟨b,off,none⟩/\G b/\b<w.heap.size:=by
 have h0:=h.here hE;obtain ⟨b,off,e,hb,hc⟩:=h0.at_ hn;refine ⟨b,off,e,?_,hb⟩;rcases Classical.em (G b) with hG | hG
 ·exact hG
 ·exfalso
  have h1:=h (w.setCell ⟨b,off,none⟩ (.bool true)) (by simp [World.setCell];exact hE) (fun b' hb'=>Yl _ _ _ _ (fun e=>hG (by rw [show b' = b from e] at hb';exact hb')));obtain ⟨b2,off2,e2,_,hc2⟩:=h1.at_ hn;rw [e] at e2;injection e2 with e2
  injection e2 with e2 e3 _
  subst e2 e3;have hl:0<l.length:=by have:=h0.len;omega
  have c0:=hc 0 l[0] (Yo hl);have c1:=hc2 0 l[0] (Yo hl);rw [Nat.add_zero] at c0 c1;rw [World.cell?_setCell_same _ _ _ c0] at c1;simp at c1
theorem zQg {E:Nat}{G:Nat->Prop}{w:World}{vs:List Value}{d:Dy}(h:On E G w (fun W=>RD W vs d)) (hE:E<=w.heap.size):∃A n c,vs=[.bool d.neg,.slice A n c,.int .i64 d.e]/\On E G w (fun W=>SL W A n c d.l):=by
 obtain ⟨A,n,c,rfl,_⟩:=h.here hE;refine ⟨A,n,c,rfl,fun W h1 h2=>?_⟩;obtain ⟨A',n',c',e,k⟩:=h W h1 h2;simp at e;obtain ⟨rfl,rfl,rfl⟩:=e;exact k
theorem zM2 {E:Nat}{G:Nat->Prop}{w:World}{vs:List Value}{x:Iv}(h:On E G w (fun W=>RI W vs x)) (hE:E<=w.heap.size):∃A n c B m d,vs=[.bool x.lo.neg,.slice A n c,.int .i64 x.lo.e,.bool x.hi.neg,.slice B m d,.int .i64 x.hi.e,.bool x.all]/\On E G w (fun W=>SL W A n c x.lo.l)/\On E G w (fun W=>SL W B m d x.hi.l):=by
 obtain ⟨A,n,c,B,m,d,rfl,_,_⟩:=h.here hE;have key:∀W:World,E<=W.heap.size->(∀b,G b->W.heap[b]? = w.heap[b]?)->SL W A n c x.lo.l/\SL W B m d x.hi.l:=fun W h1 h2=>by
  obtain ⟨A',n',c',B',m',d',e,k,k'⟩:=h W h1 h2;simp at e;obtain ⟨⟨rfl,rfl,rfl⟩,rfl,rfl,rfl⟩:=e;exact ⟨k,k'⟩
 exact ⟨A,n,c,B,m,d,rfl,fun W h1 h2=>(key W h1 h2).1,fun W h1 h2=>(key W h1 h2).2⟩
theorem zOe {α:Type}{k:Nat}{R:World->List Value->α->Prop}{G:Nat->Prop}{w:World}{A:Option Addr}{n c:Nat}{xs:List α}(h:On w.heap.size G w (fun W=>Sl k R W A n c xs)) (hk:0<k) (h0:∀W vs x,R W vs x->vs[0]? ≠ some (.int .u32 7)) {i:Nat}(hi:i<n) :
  ∃ (b off:Nat) (x:α) (vs:List Value),A=some ⟨b,off,none⟩/\b<w.heap.size/\G b/\xs[i]? = some x/\vs.length=k/\(∀ (j:Nat) (v:Value),vs[j]? = some v->w.cell? ⟨b,off+i*k+j,none⟩=some v)/\On w.heap.size G w (fun W=>R W vs x):=by
 obtain ⟨b,off,x,vs,e,hb,hx,hl,hR,hc⟩:=(h.here (Ya _)).get hi;have hGb:G b:=by
  rcases Classical.em (G b) with hG | hG
  ·exact hG
  ·exfalso
   have h1:=h (w.setCell ⟨b,off+i*k,none⟩ (.int .u32 7)) (by simp [World.setCell]) (fun b' hb'=>Yl _ _ _ _ (fun e=>hG (by rw [show b' = b from e] at hb';exact hb')));obtain ⟨b2,off2,x2,vs2,e2,_,hx2,hl2,hR2,hc2⟩:=h1.get hi;rw [e] at e2;injection e2 with e2
   injection e2 with e2 e3 _
   subst e2 e3;have z1:0<vs.length:=by omega
   have z2:0<vs2.length:=by omega
   have c0:=hc 0 vs[0] (Yo z1);have c1:=hc2 0 vs2[0] (Yo z2);rw [Nat.add_zero] at c0 c1;rw [World.cell?_setCell_same _ _ _ c0] at c1;injection c1 with c1
   exact h0 _ _ _ hR2 (by rw [Yo z2,<- c1])
 refine ⟨b,off,x,vs,e,hb,hGb,hx,hl,hc,fun W h1 h2=>?_⟩;obtain ⟨b2,off2,x2,vs2,e2,_,hx2,hl2,hR2,hc2⟩:=(h W h1 h2).get hi;rw [e] at e2;injection e2 with e2
 injection e2 with e2 e3 _
 subst e2 e3;rw [hx] at hx2;injection hx2 with hx2
 subst hx2;have ev:vs2=vs:=by
  apply List.ext_getElem (by omega)
  intro j j1 j2;have c0:=hc j vs[j] (Yo j2);have c1:=hc2 j vs2[j] (Yo j1);rw [World.cell?_of_block (w:=w) (a:=⟨b,off+i*k+j,none⟩) (h2 b hGb),c0] at c1;injection c1 with c1
  exact c1.symm
 rw [<- ev];exact hR2
theorem zIx (G:Nat->Prop) (vs us:List Value) (d d':Dy) (w:World) (h:On w.heap.size G w (fun W=>RD W vs d)) (h':On w.heap.size G w (fun W=>RD W us d')) (hd:Bd d) (hd':Bd d') :
  Calls Tryz.prog 57 #[.agg vs.toArray,.agg us.toArray] w fun e w'=>∃A n c,e=.returned (.tuple #[.agg #[.bool (zCP d d').1.neg,.slice A n c,.int .i64 (zCP d d').1.e],.int .i64 (zCP d d').2])/\On w'.heap.size (New G w w') w' (fun W=>SL W A n c (zCP d d').1.l)/\Below w.heap.size w w':=by
 obtain ⟨A,n,c,rfl,hs⟩:=zQg h (Ya _);obtain ⟨B,m,q,rfl,hs'⟩:=zQg h' (Ya _);have s1:=hs.here (Ya _);have s2:=hs'.here (Ya _);unfold Bd at hd hd';have l1:=s1.len;have l2:=s2.len;refine (zQj d.neg A n c d.l d.e d'.neg B m q d'.l d'.e w s1 s2 (by omega) (by omega)).mono ?_;rintro e w' ⟨A2,n2,c2,rfl,hsl,hoff,hb⟩
 refine ⟨A2,n2,c2,rfl,fun W h1 h2=>?_,hb⟩;refine ⟨hsl.len,hsl.cap,hsl.max,hsl.lt,fun hn=>?_⟩;obtain ⟨b,off,rfl,hbl,hc⟩:=hsl.at_ hn;have hF:New G w w' b:=by
  refine ⟨hbl,?_⟩;rcases Xj b w.heap.size with hlt | hge
  ·left
   rcases Classical.em (G b) with hG | hG
   ·exact hG
   ·exfalso
    have key:∀ (A:Option Addr) (n c:Nat) (l:List Nat),On w.heap.size G w (fun W=>SL W A n c l)->Off A n b:=fun A n c l hs hn0=>by
     obtain ⟨b1,o1,e1,g1,_⟩:=zeU hs (Ya _) hn0;exact ⟨_,e1,fun e=>hG (by rw [<- e];exact g1)⟩
    obtain ⟨ad,e1,e2⟩:=hoff b hlt ⟨key _ _ _ _ hs,key _ _ _ _ hs'⟩ hn;injection e1 with e1
    subst e1;exact e2 rfl
  ·exact .inr hge
 exact ⟨b,off,rfl,Yh hbl h1,fun j x hj=>(World.cell?_of_block (w:=w') (a:=⟨b,off+j,none⟩) (h2 b hF)).trans (hc j x hj)⟩
theorem zOs (vs:List Value) (d:Dy) (w:World) (h:RD w vs d) (hv:vld d=true):Calls Tryz.prog 58 #[.agg vs.toArray] w fun e w'=>(∃A n c,vs=[.bool d.neg,.slice A n c,.int .i64 d.e]/\e=.returned (.agg #[.bool (zEL d).neg,.slice A n c,.int .i64 d.e]))/\Below w.heap.size w w':=by
 obtain ⟨A,n,c,rfl,hs⟩:=h;refine (zMB d.neg A n c d.l d.e w hs).mono ?_;rintro e w' ⟨rfl,hb⟩
 refine ⟨⟨A,n,c,rfl,?_⟩,hb⟩;rw [show (⟨d.neg,d.l,d.e⟩:Dy)=d from rfl,zLJ d hv]
theorem zE8 {d:Dy}(hv:vld d=true):(zEL d).l=d.l/\(zEL d).e=d.e:=by
 rw [<- zLJ d hv];exact ⟨rfl,rfl⟩
theorem zLP {x d:Dy}(hv:vld d=true):zHI x d=zCP x (zEL d):=by
 unfold zHI zCP;rw [hv,zJE hv]
theorem zNo {W W':World}(h:W'.heap=W.heap) (p:Addr):W'.cell? p=W.cell? p:=by unfold World.cell?;rw [h]
def HpO {α:Type}(R:World->List Value->α->Prop):Prop:=∀W W' vs x,W'.heap=W.heap->R W vs x->R W' vs x
theorem SL.hp {W W':World}{A:Option Addr}{n c:Nat}{l:List Nat}(h:SL W A n c l) (e:W'.heap=W.heap):SL W' A n c l:=
 ⟨h.len,h.cap,h.max,h.lt,fun hn=>by
  obtain ⟨b,off,e1,hb,hc⟩:=h.at_ hn;exact ⟨b,off,e1,by rw [e];exact hb,fun j x hj=>(zNo e _).trans (hc j x hj)⟩⟩
theorem Sl.hp {α:Type}{k:Nat}{R:World->List Value->α->Prop}{W W':World}{A:Option Addr}{n c:Nat}{xs:List α}(h:Sl k R W A n c xs) (hR:HpO R) (e:W'.heap=W.heap):Sl k R W' A n c xs:=
 ⟨h.len,h.cap,h.max,fun hn=>by
  obtain ⟨b,off,e1,hb,hc⟩:=h.at_ hn;refine ⟨b,off,e1,by rw [e];exact hb,fun j x hj=>?_⟩;obtain ⟨vs,h1,h2,h3⟩:=hc j x hj;exact ⟨vs,h1,hR _ _ _ _ e h2,fun i v hi=>(zNo e _).trans (h3 i v hi)⟩⟩
theorem zSP:HpO RD:=by
 rintro W W' vs x e ⟨A,n,c,rfl,h⟩
 exact ⟨A,n,c,rfl,h.hp e⟩
theorem zUA:HpO RI:=by
 rintro W W' vs x e ⟨A,n,c,B,m,d,rfl,h,h'⟩
 exact ⟨A,n,c,B,m,d,rfl,h.hp e,h'.hp e⟩
theorem zUC:HpO RM:=by
 rintro W W' vs x e ⟨A,n,c,rfl,h⟩
 exact ⟨A,n,c,rfl,h.hp zSP e⟩
theorem zUB:HpO RL:=by
 rintro W W' vs x e ⟨H,hn,hc,T,tn,tc,A,n,c,B,m,d,C,p,q,V,vn,vc,rfl,h1,h2,h3,h4,h5,h6⟩
 exact ⟨H,hn,hc,T,tn,tc,A,n,c,B,m,d,C,p,q,V,vn,vc,rfl,h1.hp e,h2.hp zUA e,h3.hp zSP e,h4.hp zUC e,h5.hp zUA e,h6.hp zUC e⟩
theorem zVO {E:Nat}{G:Nat->Prop}{w:World}{vs:List Value}{x:Lk}(h:On E G w (fun W=>RL W vs x)) (hE:E<=w.heap.size) :
  ∃H hn hc T tn tc A n c B m d C p q V vn vc,vs=[.bool x.h.neg,.slice H hn hc,.int .i64 x.h.e,.slice T tn tc,.slice A n c,.slice B m d,.slice C p q,.slice V vn vc]/\
   On E G w (fun W=>SL W H hn hc x.h.l/\Sl 3 RD W A n c x.e.c/\Sl 1 RM W B m d x.e.a/\Sl 1 RM W V vn vc x.v)/\On E G w (fun W=>Sl 7 RI W T tn tc x.tube)/\On E G w (fun W=>Sl 7 RI W C p q x.e.r):=by
 obtain ⟨H,hn,hc,T,tn,tc,A,n,c,B,m,d,C,p,q,V,vn,vc,rfl,_⟩:=h.here hE;have key:∀W:World,E<=W.heap.size->(∀b,G b->W.heap[b]? = w.heap[b]?)->SL W H hn hc x.h.l/\Sl 7 RI W T tn tc x.tube/\Sl 3 RD W A n c x.e.c/\Sl 1 RM W B m d x.e.a/\Sl 7 RI W C p q x.e.r/\Sl 1 RM W V vn vc x.v:=fun W h1 h2=>by
  obtain ⟨H',hn',hc',T',tn',tc',A',n',c',B',m',d',C',p',q',V',vn',vc',e,k⟩:=h W h1 h2;simp at e;obtain ⟨⟨rfl,rfl,rfl⟩,⟨rfl,rfl,rfl⟩,⟨rfl,rfl,rfl⟩,⟨rfl,rfl,rfl⟩,⟨rfl,rfl,rfl⟩,rfl,rfl,rfl⟩:=e;exact k
 exact ⟨H,hn,hc,T,tn,tc,A,n,c,B,m,d,C,p,q,V,vn,vc,rfl,fun W h1 h2=>by obtain ⟨a,b,c,d,e,f⟩:=key W h1 h2;exact ⟨a,c,d,f⟩,fun W h1 h2=>(key W h1 h2).2.1,fun W h1 h2=>(key W h1 h2).2.2.2.2.1⟩
theorem zVT:∀W vs (x:Lk),RL W vs x->vs[0]? ≠ some (.int .u32 7):=by
 rintro W vs x ⟨H,hn,hc,T,tn,tc,A,n,c,B,m,d,C,p,q,V,vn,vc,rfl,_⟩
 simp
theorem Blk.trans_ {w w':World}{b:Nat}{t:TypeId}{cs:Array Value}(hb:w'.heap[b]? = w.heap[b]?) (h:Blk w b t cs):Blk w' b t cs:=hb.trans h
structure zNM (G:Nat->Prop) (lo hi:Nat) (w:World) (P:World->Prop):Prop where
 le:hi<=w.heap.size
 lo_:lo<=hi
 on:On hi (fun b=>b<hi/\(G b\/lo<=b)) w P
theorem zVR:∀W vs (x:Iv),RI W vs x->vs[0]? ≠ some (.int .u32 7):=by
 rintro W vs x ⟨A,n,c,B,m,d,rfl,_,_⟩
 simp
theorem zG3 (vs us:List Value) (x y:Ct) (e f:Int) (w:World) (h:RC w vs x) (h':RC w us y) (hx:BdC x) (hy:BdC y) (ht:zBx w):Calls Tryz.prog 13 #[.agg vs.toArray,.int .i64 e,.agg us.toArray,.int .i64 f] w (zBW (smC x e y f) w):=by
 have HE:=Zh (fun W (hb:Below w.heap.size w W)=>zIV vs us x y W (zAm w W _ _ h hb) (zAm w W _ _ h' hb) hx hy (ht.next hb));obtain ⟨xA,xn,xc,xB,xm,xd,xC,xp,xq,xL,xln,xlc,rfl,h1,h2,h3,h4⟩:=h;obtain ⟨yA,yn,yc,yB,ym,yd,yC,yp,yq,yL,yln,ylc,rfl,-,-,-,-⟩:=h';have HV:Hid (smC x e y f=(decide (e=f) && (if e=0 then ctE x y else decide (x.prec=0) && decide (x.order=0) && decide (xn=0) && decide (xln=0)))):=by unfold Hid smC;rw [h1.len,h4.len]
 have m1:=h1.cap;have m2:=h4.cap;have m3:=h1.max;have m4:=h4.max;clear h1 h2 h3 h4 hx hy ht;generalize smC x e y f=B at *;generalize ctE x y=bE at *;obtain ⟨xpr,xod,xst,xls⟩:=x;obtain ⟨ypr,yod,yst,yls⟩:=y;dsimp only at HE HV ⊢;have hb0:=zAA (zAE w (.cells #[.int .i64 xpr,.int .i64 xod,.slice xA xn xc,.slice xB xm xd,.slice xC xp xq,.slice xL xln xlc] 29)) (zAE (w.alloc (.cells #[.int .i64 xpr,.int .i64 xod,.slice xA xn xc,.slice xB xm xd,.slice xC xp xq,.slice xL xln xlc] 29)) (.cells #[.int .i64 ypr,.int .i64 yod,.slice yA yn yc,.slice yB ym yd,.slice yC yp yq,.slice yL yln ylc] 29));have ka:=(Blk.new w 29 #[.int .i64 xpr,.int .i64 xod,.slice xA xn xc,.slice xB xm xd,.slice xC xp xq,.slice xL xln xlc]).next (zAE (w.alloc (.cells #[.int .i64 xpr,.int .i64 xod,.slice xA xn xc,.slice xB xm xd,.slice xC xp xq,.slice xL xln xlc] 29)) (.cells #[.int .i64 ypr,.int .i64 yod,.slice yA yn yc,.slice yB ym yd,.slice yC yp yq,.slice yL yln ylc] 29));have kb:Blk ((w.alloc (.cells #[.int .i64 xpr,.int .i64 xod,.slice xA xn xc,.slice xB xm xd,.slice xC xp xq,.slice xL xln xlc] 29)).alloc (.cells #[.int .i64 ypr,.int .i64 yod,.slice yA yn yc,.slice yB ym yd,.slice yC yp yq,.slice yL yln ylc] 29)) (w.heap.size+1) 29 #[.int .i64 ypr,.int .i64 yod,.slice yA yn yc,.slice yB ym yd,.slice yC yp yq,.slice yL yln ylc]:=Blk.newAt _ _ _ (by simp);by_cases hef:e=f
 rotate_left
 ·have hef2:(e != f)=true:=by rw [bne_iff_ne];exact hef
  have hef3:(e == f)=false:=by rw [Xh];exact hef
  clear ka kb;go_enter Tryz.func13,Tryz.ntmps13
  go_wp2_with fail
  go_ret;exact ⟨by rw [HV.out,Ye hef];rfl,hb0⟩
 subst hef;have hef2:(e != e)=false:=by simp
 have hef3:(e == e)=true:=by simp
 by_cases he:e=0
 ·subst he
  rw [if_pos rfl,Yf rfl,Bool.true_and] at HV;obtain ⟨p0,p1,p2,p3,p4,p5⟩:=ka.cells6;obtain ⟨q0,q1,q2,q3,q4,q5⟩:=kb.cells6;go_enter Tryz.func13,Tryz.ntmps13
  go_wp2_with fail
  refine (HE.out _ hb0).mono ?_;rintro e w1 ⟨rfl,hb1⟩
  have hb2:=zAA hb0 hb1;clear p0 p1 p2 p3 p4 p5 q0 q1 q2 q3 q4 q5 hb1 ka kb;go_wp2_with fail
  go_ret;exact ⟨by rw [HV.out];rfl,hb2⟩
 have he2:(e != 0)=true:=by rw [bne_iff_ne];exact he
 have he3:(e == 0)=false:=by rw [Xh];exact he
 rw [if_neg he,Yf rfl,Bool.true_and] at HV;clear HE hef2 hef3;obtain ⟨p0,p1,p2,p3,p4,p5⟩:=ka.cells6;clear ka kb;by_cases t1:xpr=0
 rotate_left
 ·have t12:(xpr == 0)=false:=by rw [Xh];omega
  go_enter Tryz.func13,Tryz.ntmps13
  go_wp2_with fail
  go_ret;exact ⟨by rw [HV.out,Ye t1];simp,hb0⟩
 subst t1;by_cases t2:xod=0
 rotate_left
 ·have t22:(xod == 0)=false:=by rw [Xh];omega
  go_enter Tryz.func13,Tryz.ntmps13
  go_wp2_with fail
  go_ret;exact ⟨by rw [HV.out,Ye t2];simp,hb0⟩
 subst t2;by_cases t3:xn=0
 rotate_left
 ·have t32:((xn:Int) == 0)=false:=by rw [Xh];omega
  go_enter Tryz.func13,Tryz.ntmps13
  go_wp2_with fail
  go_ret;exact ⟨by rw [HV.out,Ye t3];simp,hb0⟩
 subst t3;by_cases t4:xln=0
 rotate_left
 ·have t42:((xln:Int) == 0)=false:=by rw [Xh];omega
  go_enter Tryz.func13,Tryz.ntmps13
  go_wp2_with fail
  go_ret;exact ⟨by rw [HV.out,Ye t4];simp,hb0⟩
 subst t4;go_enter Tryz.func13,Tryz.ntmps13
 go_wp2_with fail
 go_ret;exact ⟨by rw [HV.out];simp,hb0⟩
def zBF {α:Type}(Q:Nat->α->Prop):PT (Option α)->Nat->Nat->Prop
 | .lf,_,_=>True
 | .nd v l r,st,s=>(∀a,v=some a->Q s a)/\zBF Q l (2*st) (s+st)/\zBF Q r (2*st) (s+2*st)
theorem zeM {α:Type}(d v:α) (l r:PT α) (n:Nat):PT.get d (.nd v l r) n=(Bool.rec (Bool.rec (PT.get d r (Nat.sub (Nat.div n 2) 1)) (PT.get d l (Nat.div n 2)) (Nat.beq (Nat.land n 1) 1)) v (Nat.beq n 0):α):=rfl
theorem zEp {α:Type}{Q:Nat->α->Prop}:∀ {T:PT (Option α)}{st s:Nat},zBF Q T st s->∀ (n:Nat) (a:α),PT.get none T n=some a->Q (s+st*n) a
 | .lf,_,_,_,n,a,h=>by cases h
 | .nd v l r,st,s,⟨h1,h2,h3⟩,n,a,h=>by
  rw [zeM] at h;cases h0:Nat.beq n 0
  ·rw [h0] at h
   have hn:=Xl h0;dsimp only at h;have hland:Nat.land n 1=n%2:=Nat.and_one_is_mod n;rw [hland] at h;cases hb:Nat.beq (n%2) 1
   ·rw [hb] at h
    have hb:=Xl hb;have:=zEp h3 _ _ h;have e:s+2*st+2*st*(Nat.sub (Nat.div n 2) 1)=s+st*n:=by
     have e1:n=2*(Nat.sub (Nat.div n 2) 1)+2:=by
      show n=2*(n / 2 - 1)+2
      omega
     generalize Nat.sub (Nat.div n 2) 1=k at e1 ⊢;subst e1;rw [Nat.mul_add,Nat.mul_comm 2 st,Yz];omega
    rwa [e] at this
   ·rw [hb] at h
    have hb:=Yg hb;have:=zEp h2 _ _ h;have e:s+st+2*st*(Nat.div n 2)=s+st*n:=by
     have e1:n=2*(Nat.div n 2)+1:=by
      show n=2*(n / 2)+1
      omega
     generalize Nat.div n 2=k at e1 ⊢;subst e1;rw [Nat.mul_add,Nat.mul_one,Nat.mul_comm 2 st,Yz];omega
    rwa [e] at this
  ·rw [h0] at h
   have hn:=Yg h0;subst hn;have:=h1 a h
   rwa [Nat.mul_zero,Nat.add_zero]
theorem zAg {α:Type}{Q:Nat->α->Prop}{a:α}{s:Nat}(h:Q s a):∀b,some a=some b->Q s b:=fun b e=>by injection e with e;subst e;exact h
theorem zAO {α:Type}{Q:Nat->α->Prop}{s:Nat}:∀b:α,none=some b->Q s b:=fun b e=>by cases e
def zVy {α:Type}(q:Nat->α->Bool):PT (Option α)->Nat->Nat->Bool
 | .lf,_,_=>true
 | .nd v l r,st,s=>(match v with | some a=>q s a | none=>true) && (zVy q l (2*st) (s+st) && zVy q r (2*st) (s+2*st))
theorem zNa {α:Type}{Q:Nat->α->Prop}{q:Nat->α->Bool}(hq:∀s a,q s a=true->Q s a):∀ {T:PT (Option α)}{st s:Nat},zVy q T st s=true->zBF Q T st s
 | .lf,_,_,_=>trivial
 | .nd v l r,st,s,h=>by
  unfold zVy at h;simp only [Yi] at h;obtain ⟨h1,h2,h3⟩:=h;refine ⟨fun a e=>?_,zNa hq h2,zNa hq h3⟩;subst e;exact hq s a h1
def zS3 (x:AV) (v:Value):Bool:=
 match x,v with
 | .i k n,.int k' n'=>Nat.beq (kc k) (kc k') && eqI n n'
 | .b t,.bool t'=>t == t'
 | .v (.string s),.string s'=>s.data.toList == s'.data.toList
 | .v (.slice none 0 0),.slice none 0 0=>true
 | .v (.pointer none),.pointer none=>true
 | .v (.map none),.map none=>true
 | .v .nilFunc,.nilFunc=>true
 | .v .nilIface,.nilIface=>true
 | _,_=>false
theorem zOm {x:AV}{v:Value}(h:zS3 x v=true):(∀ι fz w,Rel ι fz w x v)/\zFv v=true:=by
 unfold zS3 at h
 split at h
 ·simp only [Yi] at h
  rw [zDl] at h;rw [zFx h.1,of_decide_eq_true h.2];exact ⟨fun _ _ _=>.i _ _,rfl⟩
 ·have:=eq_of_beq h
  subst this;exact ⟨fun _ _ _=>.b _,rfl⟩
 ·rename_i s s'
  have:s.data.toList=s'.data.toList:=by simpa using h
  have h2:s.data=s'.data:=Array.ext' this;have:s=s':=by cases s;cases s';simp_all
  subst this;exact ⟨fun _ _ _=>.v _,rfl⟩
 ·exact ⟨fun _ _ _=>.v _,rfl⟩
 ·exact ⟨fun _ _ _=>.v _,rfl⟩
 ·exact ⟨fun _ _ _=>.v _,rfl⟩
 ·exact ⟨fun _ _ _=>.v _,rfl⟩
 ·exact ⟨fun _ _ _=>.v _,rfl⟩
 ·cases h
def zL9:List AV->List Value->Bool
 | [],[]=>true
 | x::xs,v::vs=>zS3 x v && zL9 xs vs
 | _,_=>false
theorem zIA:∀ {xs:List AV}{vs:List Value},zL9 xs vs=true->∀ι fz w,zA5 ι fz w true xs vs
 | [],[],_=>fun _ _ _=>.nil _
 | [],_::_,h=>by cases h
 | _::_,[],h=>by cases h
 | x::xs,v::vs,h=>by
  unfold zL9 at h;simp only [Yi] at h;obtain ⟨h1,h2⟩:=zOm h.1;exact fun ι fz w=>.cons _ _ _ _ _ (h1 ι fz w) (fun _=>h2) (zIA h.2 ι fz w)
def zId (P:Program):List (Nat×Nat×Bool)->List Field->Bool
 | [],[]=>true
 | p::ps,f::fs=>(match P.info? f.type,P.underlying f.type with
  | some i,some du=>Nat.beq p.1 f.offset && Nat.beq p.2.1 i.size && (p.2.2 == zBZ du)
  | _,_=>false) && zId P ps fs
 | _,_=>false
theorem zHu {P:Program}:∀ {ps:List (Nat×Nat×Bool)}{fs:List Field},zId P ps fs=true->
  ps.length=fs.length/\∀ (j:Nat) (f:Field),fs[j]? = some f->∃i du,P.info? f.type=some i/\P.underlying f.type=some du/\ps[j]? = some (f.offset,i.size,zBZ du)
 | [],[],_=>⟨rfl,fun j f h=>by simp at h⟩
 | [],_::_,h=>by cases h
 | _::_,[],h=>by cases h
 | p::ps,f::fs,h=>by
  unfold zId at h;simp only [Yi] at h;obtain ⟨h1,h2⟩:=h;obtain ⟨h3,h4⟩:=zHu h2;refine ⟨by simp [h3],fun j g hj=>?_⟩;cases j with
  | zero=>
   simp at hj;subst hj
   split at h1
   ·rename_i i du e1 e2
    simp only [Yi] at h1;obtain ⟨⟨h5,h6⟩,h7⟩:=h1;refine ⟨i,du,e1,e2,?_⟩;have h5:=Yg h5;have h6:=Yg h6;have h7:=eq_of_beq h7;rw [<- h5,<- h6,<- h7];rfl
   ·cases h1
  | succ j=>simpa using h4 j g (by simpa using hj)
def tcB (P:Program) (d:TypeDesc) (c:TC):Bool:=
 match c,d with
 | .other,d=>!zBZ d
 | .bool,.bool=>true
 | .int k,.int k'=>Nat.beq (kc k) (kc k')
 | .str,.string=>true
 | .ptr,.pointer _=>true
 | .fnc,.func _ _ _=>true
 | .slice e,.slice e'=>Nat.beq e e'
 | .arr n e,.array n' e'=>Nat.beq n n' && Nat.beq e e'
 | .map k e,.map k' e'=>Nat.beq k k' && Nat.beq e e'
 | .struct fs,.struct fields=>zId P fs fields.toList
 | _,_=>false
theorem zVk {P:Program}{d:TypeDesc}{c:TC}(h:tcB P d c=true):zGS P d c:=by
 unfold tcB at h
 split at h
 ·simpa [zGS] using h
 ·rfl
 ·rw [zFx h];rfl
 ·rfl
 ·exact ⟨_,rfl⟩
 ·exact ⟨_,_,_,rfl⟩
 ·rw [Yg h];rfl
 ·simp only [Yi] at h
  rw [Yg h.1,Yg h.2];rfl
 ·simp only [Yi] at h
  rw [Yg h.1,Yg h.2];rfl
 ·rename_i fs fields
  obtain ⟨h1,h2⟩:=zHu h;exact ⟨fields,rfl,by rw [h1,Array.length_toList],fun j f hj=>h2 j f (by simpa using hj)⟩
 ·cases h
def zDM (P:Program):Nat->TypeId->Option Nat
 | 0,_=>none
 | d+1,t=>match P.underlying t,P.info? t with
  | some (.int _),some i=>if Nat.beq i.size 1 then some 1 else none
  | some (.struct fields),some i=>match leafEnd (zDM P d) fields.toList 0 with
   | some e=>if !P.stoodInHeld t && Nat.beq i.size e then some i.size else none
   | none=>none
  | _,_=>none
where
 leafEnd (L:TypeId->Option Nat):List Field->Nat->Option Nat
  | [],o=>some o
  | f::fs,o=>match L f.type with
   | some s=>if Nat.beq f.offset o && !(f.name == "_") then leafEnd L fs (o+s) else none
   | none=>none
theorem zH2 {L:TypeId->Option Nat}{M:TypeId->Nat->Prop}(hL:∀t s,L t=some s->M t s):∀ {fs:List Field}{o e:Nat},zDM.leafEnd L fs o=some e->zFO M fs o e
 | [],o,e,h=>by cases h;rfl
 | f::fs,o,e,h=>by
  unfold zDM.leafEnd at h
  split at h
  ·rename_i s hs
   split at h
   ·rename_i hc
    simp only [Yi,Bool.not_eq_true'] at hc;exact ⟨Yg hc.1,by simpa using hc.2,s,hL _ _ hs,zH2 hL h⟩
   ·cases h
  ·cases h
theorem zG1 {P:Program}:∀ {d:Nat}{t:TypeId}{s:Nat},zDM P d t=some s->zHW P d t s
 | 0,t,s,h=>by cases h
 | d+1,t,s,h=>by
  unfold zDM at h
  split at h
  ·rename_i k i h1 h2
   split at h
   ·rename_i hc
    injection h with h
    subst h;exact .inl ⟨k,i,h1,h2,Yg hc,rfl⟩
   ·cases h
  ·rename_i fields i h1 h2
   split at h
   ·rename_i e he
    split at h
    ·rename_i hc
     injection h with h
     subst h;simp only [Yi,Bool.not_eq_true'] at hc;obtain ⟨h3,h4⟩:=hc;rw [<- Yg h4] at he;exact .inr ⟨fields,i,h1,h3,h2,rfl,zH2 (L:=zDM P d) (M:=zHW P d) (fun t s h=>zG1 h) he⟩
    ·cases h
   ·cases h
  ·cases h
def zhI (z:Value):Bool:=match z with | .agg _=>true | _=>false
def tiB (P:Program) (t:Nat) (ti:TI):Bool:=
 match P.info? t,P.underlying t with
 | some i,some d=>(match i.zero with
  | some z=>Nat.beq i.size ti.size && Nat.beq i.bytes ti.bytes && zL9 ti.zero z.cells.toList && Nat.beq ti.zero.length ti.size && (zhI z == zBZ d) && tcB P d ti.c
  | none=>false) && (!ti.eq || (!P.eqGuardType P.depth t && (match d with | .struct _=>true | _=>false) && (match zDM P 9 t with | some s=>Nat.beq s ti.size | none=>false)))
 | _,_=>false
theorem zVl {P:Program}{t:Nat}{ti:TI}(h:tiB P t ti=true):zMV P t ti:=by
 unfold tiB at h
 split at h
 ·rename_i i d h1 h2
  simp only [Yi] at h;obtain ⟨h3,h4⟩:=h
  split at h3
  ·rename_i z hz
   simp only [Yi] at h3;obtain ⟨⟨⟨⟨⟨g1,g2⟩,g3⟩,g4⟩,g5⟩,g6⟩:=h3;have g5:=eq_of_beq g5;refine ⟨⟨i,z,d,h1,Yg g1,Yg g2,hz,zIA g3,Yg g4,fun h=>?_,fun h=>?_,h2,zVk g6⟩,fun he=>?_⟩
   ·rw [h] at g5
    cases z <;> first | rfl | cases g5
   ·rw [h] at g5
    cases z <;> first | rfl | cases g5
   ·rw [he] at h4
    simp only [Bool.not_true,Bool.false_or,Yi,Bool.not_eq_true'] at h4;obtain ⟨⟨k1,k2⟩,k3⟩:=h4;refine ⟨k1,?_,?_⟩
    ·split at k2
     ·exact ⟨_,h2⟩
     ·cases k2
    ·split at k3
     ·rename_i s hs
      rw [<- Yg k3];exact zG1 hs
     ·cases k3
  ·cases h3
 ·cases h
def gB (t:Bool) (r:Res):Res:=Bool.rec .fail r t
theorem zP9 (E:Env) (ops:Array Oper) (draw:Bool):zR0 E 0 (fun call=>zHa E call ops draw) ops draw:=by
 intro call T H n x T' H' n' h;obtain ⟨es,rfl,hl⟩:=zKD h;exact ⟨_,h,(zG7 _ _ (by rw [Yu];omega)).symm⟩
def zB4 (E:Env):Code->CC E 0
 | .skip=>.skip
 | .ret=>.ret
 | .exit i=>.exit i
 | .label l=>.label l
 | .seq a b=>.seq (zB4 E a) (zB4 E b)
 | .cond c a b=>.cond c (zB4 E a) (zB4 E b)
 | .block id b=>.block id (zB4 E b)
 | .loop b=>.loop (zB4 E b)
 | .scope b=>.scope (zB4 E b)
 | .region id ops draw=>.reg id ops draw (fun call=>zHa E call ops draw) (zP9 E ops draw)
 | c=>.bad c
def zj0 (E:Env) (f:Func):CC E 0:=Option.rec (.bad .skip) (zB4 E) f.body
def ps (p:Option Hp) (k:Hp->Res):Res:=Option.rec .fail k p
end Go.Proofs.YtchkfjgcbbbffaaGreatDoor
end
