/- Bundle 11: what the law's walk stands on: C5, C6, S5, R5, R7. -/
import Derived.StillTailTactics
import Derived.Test.YtchkfjgcbbbffaaGreatDoorZ2
import Derived.Test.YtchkfjgcbbbffaaGreatDoorZ3
import Derived.Test.YtchkfjgcbbbffaaGreatDoorZ4
import Derived.Test.YtchkfjgcbbbffaaGreatDoorZ10
set_option maxRecDepth 100000
set_option maxHeartbeats 20000000
set_option linter.all false
noncomputable section
namespace Go.Proofs.YtchkfjgcbbbffaaGreatDoor
open Go.RowKit Pl Go.Shelf
def zMZ {α:Type}(p:Nat->α->Bool) (i:Nat):List α->Bool
 | []=>true
 | x::xs=>p i x && zMZ p (i+1) xs
theorem zF9 {α:Type}(p:Nat->α->Bool):∀ (xs:List α) (i:Nat),(∀ (j:Nat) (x:α),xs[j]? = some x->p (i+j) x=true)->zMZ p i xs=true:=by
 intro xs
 induction xs with
 | nil=>intro i _;rfl
 | cons x xs ih=>
  intro i h;simp only [zMZ,Yi];exact ⟨h 0 x rfl,ih (i+1) (fun j y hy=>by have:=h (j+1) y (by simpa using hy);rwa [show i+(j+1)=i+1+j by omega] at this)⟩
theorem zDe {α:Type}(p:Nat->α->Bool):∀ (xs:List α) (i j:Nat) (x:α),xs[j]? = some x->p (i+j) x=false->zMZ p i xs=false:=by
 intro xs
 induction xs with
 | nil=>intro i j x h;simp at h
 | cons y xs ih=>
  intro i j x h hp;cases j with
  | zero=>
   simp at h;subst h;simp only [zMZ];rw [show i+0=i from rfl] at hp;rw [hp];rfl
  | succ j=>
   simp only [zMZ];rw [ih (i+1) j x (by simpa using h) (by rwa [show i+1+j=i+(j+1) by omega]),Bool.and_false]
theorem zNb {α:Type}(p q:Nat->α->Bool):∀ (xs:List α) (i:Nat),(∀ (j:Nat) (x:α),xs[j]? = some x->p (i+j) x=q (i+j) x)->zMZ p i xs=zMZ q i xs:=by
 intro xs
 induction xs with
 | nil=>intro i _;rfl
 | cons x xs ih=>
  intro i h;simp only [zMZ];rw [show p i x=q i x from h 0 x rfl,ih (i+1) (fun j y hy=>by have:=h (j+1) y (by simpa using hy);rwa [show i+(j+1)=i+1+j by omega] at this)]
def zNR:Dy:=⟨false,[1],0⟩
def idC (i k:Nat) (d:Dy):Bool:=decide (zCH d (if i=k then zNR else zAZ)=0)
def zIi (i:Nat) (l:List Dy):Bool:=zMZ (idC i) 0 l
def idM (m:List (List Dy)):Bool:=zMZ zIi 0 m
theorem zSI:zNQ 0=zAZ:=by kernel_rfl
theorem zLt (w:World) (ht:zBx w):Calls Tryz.prog 99 #[.int .i64 0] w (zNV ⟨false,[],0⟩ w):=by
 have:=zEe 0 w (by omega) ht;rw [show zNQ ((0:Nat):Int)=⟨false,[],0⟩ from zSI] at this;exact this
theorem zJp (A:Option Addr) (n c:Nat) (m:List (List Dy)) (w:World) (h:Sl 1 RM w A n c m) (hx:∀l∈m,∀d∈l,Bd d) (ht:zBx w):Calls Tryz.prog 45 #[.slice A n c] w (zBW (idM m) w):=by
 have m1:=h.cap;have m2:=h.max;have HL:=Zh h.len;have HS:=Zh h;have HX:=Zh hx;have HT:=Zh ht;clear h hx ht;go_enter Tryz.func45,Tryz.ntmps45
 go_wp2_with fail
 go_loopw [10] (fun v wr=>∃i:Nat,i<=n/\v=.int .i64 i/\Hid (∀ (j:Nat) (l:List Dy),j<i->m[j]? = some l->zIi j l=true)/\Below w.heap.size w wr) (fun v _=>n - (intOf v).toNat)
 case atStart=>exact ⟨0,Nat.zero_le _,rfl,fun j l hj=>absurd hj (by omega),Yp _ _⟩
 case round=>
  obtain ⟨i,hi,rfl,HZ,hb⟩:=hrel;by_cases hlt:i<n
  ·obtain ⟨b,off,l,vs,rfl,hbl,hml,hk,hR,hc⟩:=HS.out.get hlt
   obtain ⟨A1,n1,c1,rfl,hs⟩:=hR;have qt:=hc 0 _ rfl;rw [Nat.mul_one,Nat.add_zero] at qt;have q0:=(hb.cell (p:=⟨b,off+i,none⟩) hbl).trans qt;have HM:=Zh hml;have HS1:=Zh hs;have HXl:=Zh (HX.out l (Yk hml));have HL1:=Zh hs.len;have m3:=hs.cap;have m4:=hs.max;clear hc qt hk hml hs;go_wp2_with fail
   clear q0
   go_loopw [17] (fun v wi=>∃k:Nat,k<=n1/\v=.int .i64 k/\Hid (∀ (j:Nat) (d:Dy),j<k->l[j]? = some d->idC i j d=true)/\Below w.heap.size w wi) (fun v _=>n1 - (intOf v).toNat)
   case atStart=>exact ⟨0,Nat.zero_le _,rfl,fun j l hj=>absurd hj (by omega),hb⟩
   case round=>
    clear hb;obtain ⟨k,hk,rfl,HZ1,hb⟩:=hrel;by_cases hlt1:k<n1
    ·obtain ⟨b1,off1,d,us,rfl,hbl1,hd,hk1,hR1,hc1⟩:=HS1.out.get hlt1
     have HBd:=Zh (HXl.out d (Yk hd));have HR1:=Zh (fun W (hW:Below w.heap.size w W)=>zAQ _ _ _ _ hR1 hW);obtain ⟨DA,dm,dc,rfl,hsd⟩:=hR1;have p0:=(hb.cell (p:=⟨b1,off1+k*3,none⟩) hbl1).trans (hc1 0 _ rfl);have p1:=(hb.cell (p:=⟨b1,off1+k*3+1,none⟩) hbl1).trans (hc1 1 _ rfl);have p2:=(hb.cell (p:=⟨b1,off1+k*3+2,none⟩) hbl1).trans (hc1 2 _ rfl);obtain ⟨dn,dl,de⟩:=d;have HD:=Zh hd;clear hd hc1 hk1 hsd;dsimp only at p0 p1 p2 HR1;have kd:=Blk.new wr 41 #[.bool dn,.slice DA dm dc,.int .i64 de];have hb1:=zAE wr (.cells #[.bool dn,.slice DA dm dc,.int .i64 de] 41);replace hb:=zAt hb hb1 (Ya _);clear hb1;by_cases hik:i=k
     ·have HE:Hid (idC i k ⟨dn,dl,de⟩=decide (zCH ⟨dn,dl,de⟩ zNR=0)):=by unfold Hid idC;rw [if_pos hik]
      have hik2:((i:Int) == (k:Int))=true:=by rw [hik];simp
      clear hik;go_wp2_with fail
      generalize wr.alloc (.cells #[.bool dn,.slice DA dm dc,.int .i64 de] 41)=W1 at *;generalize wr.heap.size=gd at *;refine (zLt _ (HT.out.next hb)).mono ?_;rintro e w1 ⟨ZA,zn,zc,rfl,hs0,hf0,hb1⟩
      clear p0 p1 p2;replace hb:=zAt hb hb1 (Ya _);replace kd:=kd.next hb1;clear hb1 hs0 hf0;have hgz:=hb.size;have hgd:=Nat.ne_of_lt kd.lt;have kz:=Blk.new w1 41 #[.bool false,.slice ZA zn zc,.int .i64 0];have hb1:=zAE w1 (.cells #[.bool false,.slice ZA zn zc,.int .i64 0] 41);replace hb:=zAt hb hb1 (Ya _);replace kd:=kd.next hb1;clear hb1;go_wp2_with fail
      generalize w1.alloc (.cells #[.bool false,.slice ZA zn zc,.int .i64 0] 41)=W2 at *;generalize w1.heap.size=gz at *;refine (zSW _ (HT.out.next hb)).mono ?_;rintro e w2 ⟨OA,on,oc,rfl,hs1,hf1,hb1⟩
      replace hb:=zAt hb hb1 (Ya _);replace kd:=kd.next hb1;have hoff:=Off.fresh hf1 kz.lt;replace kz:=kz.next hb1;clear hb1 hf1;dsimp only at hs1;obtain ⟨z0,z1,z2⟩:=kz.cells3;have f0:=kz.frozen 0;have f1:=kz.frozen 1;have f2:=kz.frozen 2;have kz2:=kz.set3 (.bool false) (.slice OA on oc) (.int .i64 0);have kd2:=kd.off3 (g:=gz) hgd (.bool false) (.slice OA on oc) (.int .i64 0);have hs2:=hs1.off3 hoff (.bool false) (.slice OA on oc) (.int .i64 0);have hb2:=zAG hb hgz (.bool false) (.slice OA on oc) (.int .i64 0);obtain ⟨t0,t1,t2⟩:=kz2.cells3;obtain ⟨s0,s1,s2⟩:=kd2.cells3;go_wp2_with fail
      generalize ((w2.setCell ⟨gz,0,none⟩ (.bool false)).setCell ⟨gz,1,none⟩ (.slice OA on oc)).setCell ⟨gz,2,none⟩ (.int .i64 0)=W3 at *;clear z0 z1 z2 f0 f1 f2 kz kd hs1 hb t0 t1 t2 s0 s1 s2;refine (zIW _ [.bool false,.slice OA on oc,.int .i64 0] _ zNR _ (HR1.out _ hb2) ⟨OA,on,oc,rfl,hs2⟩ HBd.out (by unfold Bd zNR;simp)).mono ?_;rintro e w4 ⟨rfl,hb4⟩
      replace hb:=zAt hb2 hb4 (Ya _);clear hb2 hb4;generalize zCH ⟨dn,dl,de⟩ zNR=r at *;by_cases hr:r=0
      ·subst hr
       have HC:Hid (idC i k ⟨dn,dl,de⟩=true):=by unfold Hid;rw [HE.out];rfl
       clear HE;go_wp2_with fail
       go_roundw
       case rel=>exact ⟨k+1,by omega,by go_num,fun j d' hj hd'=>by
        by_cases hjk:j<k
        ·exact HZ1.out j d' hjk hd'
        ·obtain rfl:j=k:=by omega
         rw [HD.out] at hd';injection hd' with hd'
         rw [<- hd'];exact HC.out,hb⟩
       case measure=>simp [intOf];omega
      ·have hr2:(r != 0)=true:=by simpa using hr
       have HC:Hid (idC i k ⟨dn,dl,de⟩=false):=by unfold Hid;rw [HE.out];simpa using hr
       clear HE;go_wp2_with fail
       go_ret;refine ⟨?_,hb⟩;have hrow:zIi i l=false:=by
        unfold zIi;exact zDe _ l 0 k _ HD.out (by rw [Nat.zero_add];exact HC.out)
       have:idM m=false:=by
        unfold idM;exact zDe _ m 0 i _ HM.out (by rw [Nat.zero_add];exact hrow)
       rw [this];rfl
     ·have HE:Hid (idC i k ⟨dn,dl,de⟩=decide (zCH ⟨dn,dl,de⟩ zAZ=0)):=by unfold Hid idC;rw [if_neg hik]
      have hik2:((i:Int) == (k:Int))=false:=by rw [Xh];omega
      clear hik;go_wp2_with fail
      generalize wr.alloc (.cells #[.bool dn,.slice DA dm dc,.int .i64 de] 41)=W1 at *;generalize wr.heap.size=gd at *;refine (zLt _ (HT.out.next hb)).mono ?_;rintro e w1 ⟨ZA,zn,zc,rfl,hs0,hf0,hb1⟩
      clear p0 p1 p2;replace hb:=zAt hb hb1 (Ya _);replace kd:=kd.next hb1;clear hb1 hf0;dsimp only at hs0;have kz:=Blk.new w1 41 #[.bool false,.slice ZA zn zc,.int .i64 0];have hb1:=zAE w1 (.cells #[.bool false,.slice ZA zn zc,.int .i64 0] 41);replace hb:=zAt hb hb1 (Ya _);replace kd:=kd.next hb1;replace hs0:=hs0.below hb1;clear hb1;obtain ⟨s0,s1,s2⟩:=kd.cells3;go_wp2_with fail
      generalize w1.alloc (.cells #[.bool false,.slice ZA zn zc,.int .i64 0] 41)=W2 at *;refine (zIW _ [.bool false,.slice ZA zn zc,.int .i64 0] _ zAZ _ (HR1.out _ hb) ⟨ZA,zn,zc,rfl,hs0⟩ HBd.out zKg).mono ?_;rintro e w4 ⟨rfl,hb4⟩
      replace hb:=zAt hb hb4 (Ya _);clear hb4 s0 s1 s2;generalize zCH ⟨dn,dl,de⟩ zAZ=r at *;by_cases hr:r=0
      ·subst hr
       have HC:Hid (idC i k ⟨dn,dl,de⟩=true):=by unfold Hid;rw [HE.out];rfl
       clear HE;go_wp2_with fail
       go_roundw
       case rel=>exact ⟨k+1,by omega,by go_num,fun j d' hj hd'=>by
        by_cases hjk:j<k
        ·exact HZ1.out j d' hjk hd'
        ·obtain rfl:j=k:=by omega
         rw [HD.out] at hd';injection hd' with hd'
         rw [<- hd'];exact HC.out,hb⟩
       case measure=>simp [intOf];omega
      ·have hr2:(r != 0)=true:=by simpa using hr
       have HC:Hid (idC i k ⟨dn,dl,de⟩=false):=by unfold Hid;rw [HE.out];simpa using hr
       clear HE;go_wp2_with fail
       go_ret;refine ⟨?_,hb⟩;have hrow:zIi i l=false:=by
        unfold zIi;exact zDe _ l 0 k _ HD.out (by rw [Nat.zero_add];exact HC.out)
       have:idM m=false:=by
        unfold idM;exact zDe _ m 0 i _ HM.out (by rw [Nat.zero_add];exact hrow)
       rw [this];rfl
    ·have HRow:Hid (zIi i l=true):=by
      unfold Hid zIi;refine zF9 _ l 0 (fun j d hd=>?_);rw [Nat.zero_add];refine HZ1.out j d ?_ hd;have:=(Yb.1 hd).1;have:=HL1.out;omega
     go_wp2_with fail
     go_roundw
     case rel=>exact ⟨i+1,by omega,by go_num,fun j l' hj hl'=>by
      by_cases hji:j<i
      ·exact HZ.out j l' hji hl'
      ·obtain rfl:j=i:=by omega
       rw [HM.out] at hl';injection hl' with hl'
       rw [<- hl'];exact HRow.out,hb⟩
     case measure=>simp [intOf];omega
  ·go_wp2_with fail
   go_ret;refine ⟨?_,hb⟩;have:idM m=true:=by
    unfold idM;refine zF9 _ m 0 (fun j l hl=>?_);rw [Nat.zero_add];refine HZ.out j l ?_ hl;have:=(Yb.1 hl).1;have:=HL.out;omega
   rw [this];rfl
def lkV (N:Nat) (x:Lk):Bool:=vld x.h && decide (0<zBP x.h) && zEO x.tube && decide (x.tube.length=N) && frV x.e && decide (x.e.c.length=N) && sqV x.v N
def ctV (x:Ct):Bool:=decide (8<=x.prec) && decide (x.prec<=256) && decide (1<=x.order) && decide (x.order<=15) && decide (x.links.length<=1000) &&
 decide (1<=x.start.c.length) && decide (x.start.c.length<=4) && frV x.start && idM x.start.a && !x.links.any (fun l=>!lkV x.start.c.length l)
theorem zRo (vs:List Value) (d:Dy) (w:World) (h:RD w vs d) (hd:Bd d):Calls Tryz.prog 48 #[.agg vs.toArray] w fun e w'=>e=.returned (.int .i64 (zBP d))/\Below w.heap.size w w':=by
 obtain ⟨A,n,c,rfl,hs⟩:=h;have:=hs.len;unfold Bd at hd;exact zFH d.neg A n c d.l d.e w hs (by omega)
theorem zHY (N gN:Nat) (vs:List Value) (x:Lk) (w:World) (h:RL w vs x) (hx:BdL x) (kN:Blk w gN 3 #[.int .i64 N]):Calls Tryz.prog 46 (#[.agg vs.toArray]++#[.pointer (some ⟨gN,0,none⟩)]) w (zBW (!lkV N x) w):=by
 obtain ⟨H,hn,hc,T,tn,tc,A,n,c,B,m,d,C,p,q,V,vn,vc,rfl,h1,h2,h3,h4,h5,h6⟩:=h;obtain ⟨⟨dn,dl,de⟩,tube,fe,v⟩:=x;dsimp only at h1 h2 h3 h4 h5 h6 ⊢;have e:(#[.agg ([.bool dn,.slice H hn hc,.int .i64 de,.slice T tn tc,.slice A n c,.slice B m d,.slice C p q,.slice V vn vc]:List Value).toArray]++#[.pointer (some ⟨gN,0,none⟩)]:Array Value)=#[.agg #[.bool dn,.slice H hn hc,.int .i64 de,.slice T tn tc,.slice A n c,.slice B m d,.slice C p q,.slice V vn vc],.pointer (some ⟨gN,0,none⟩)]:=by simp
 rw [e];clear e;have HV:Hid (lkV N ⟨⟨dn,dl,de⟩,tube,fe,v⟩=(vld ⟨dn,dl,de⟩ && decide (0<zBP ⟨dn,dl,de⟩) && zEO tube && decide (tn=N) && frV fe && decide (n=N) && sqV v N)):=by unfold Hid lkV;rw [h2.len,h3.len]
 have r1:RD w [.bool dn,.slice H hn hc,.int .i64 de] ⟨dn,dl,de⟩:=⟨H,hn,hc,rfl,h1⟩;have r2:RF w [.slice A n c,.slice B m d,.slice C p q] fe:=⟨A,n,c,B,m,d,C,p,q,rfl,h3,h4,h5⟩;have H1:=Zh (fun W (hb:Below w.heap.size w W)=>zEl _ _ W (zAQ w W _ _ r1 hb) hx.h);have H2:=Zh (fun W (hb:Below w.heap.size w W)=>zRo _ _ W (zAQ w W _ _ r1 hb) hx.h);have H3:=Zh (fun W (hb:Below w.heap.size w W)=>zDh T tn tc tube W (h2.next zAX hb) hx.t);have H4:=Zh (fun W (hb:Below w.heap.size w W)=>zEQ _ fe W (zBs w W _ _ r2 hb) hx.e);have H5:=Zh (fun W (hb:Below w.heap.size w W)=>zNE N V vn vc v W (h6.next zAh hb) hx.v);have m1:=h2.cap;have m2:=h2.max;have m3:=h3.cap;have m4:=h3.max;have hb0:=zAE w (.cells #[.bool dn,.slice H hn hc,.int .i64 de,.slice T tn tc,.slice A n c,.slice B m d,.slice C p q,.slice V vn vc] 86);have k0:=Blk.new w 86 #[.bool dn,.slice H hn hc,.int .i64 de,.slice T tn tc,.slice A n c,.slice B m d,.slice C p q,.slice V vn vc];replace kN:=kN.next hb0;clear h1 h2 h3 h4 h5 h6 r1 r2 hx;go_enter Tryz.func46,Tryz.ntmps46
 go_wp2_with fail
 generalize w.alloc (.cells #[.bool dn,.slice H hn hc,.int .i64 de,.slice T tn tc,.slice A n c,.slice B m d,.slice C p q,.slice V vn vc] 86)=W0 at *;refine (H1.out _ hb0).mono ?_;rintro e w1 ⟨rfl,hb1x⟩
 replace hb0:=zAA hb0 hb1x;replace k0:=k0.next hb1x;replace kN:=kN.next hb1x;clear hb1x;cases hv1:vld ⟨dn,dl,de⟩
 ·rw [hv1] at HV
  clear hv1;go_wp2_with fail
  go_ret;exact ⟨by rw [HV.out];rfl,hb0⟩
 rw [hv1] at HV;clear hv1;obtain ⟨k0q0,k0q1,k0q2,k0q3,k0q4,k0q5,k0q6,k0q7⟩:=k0.cells8;have kNq0:=kN.cells1;go_wp2_with fail
 refine (H2.out _ hb0).mono ?_;rintro e w2 ⟨rfl,hb2x⟩
 clear k0q0 k0q1 k0q2 k0q3 k0q4 k0q5 k0q6 k0q7 kNq0;replace hb0:=zAA hb0 hb2x;replace k0:=k0.next hb2x;replace kN:=kN.next hb2x;clear hb2x;generalize zBP ⟨dn,dl,de⟩=r at *;by_cases hr:0<r
 rotate_left
 ·rw [Ye hr] at HV
  have hr2:decide (r<=0)=true:=Yf (by omega);obtain ⟨k0q0,k0q1,k0q2,k0q3,k0q4,k0q5,k0q6,k0q7⟩:=k0.cells8;have kNq0:=kN.cells1;go_wp2_with fail
  go_ret;exact ⟨by rw [HV.out];rfl,hb0⟩
 rw [Yf hr] at HV;have hr2:decide (r<=0)=false:=Ye (by omega);obtain ⟨k0q0,k0q1,k0q2,k0q3,k0q4,k0q5,k0q6,k0q7⟩:=k0.cells8;have kNq0:=kN.cells1;go_wp2_with fail
 refine (H3.out _ hb0).mono ?_;rintro e w3 ⟨rfl,hb3x⟩
 clear k0q0 k0q1 k0q2 k0q3 k0q4 k0q5 k0q6 k0q7 kNq0;replace hb0:=zAA hb0 hb3x;replace k0:=k0.next hb3x;replace kN:=kN.next hb3x;clear hb3x;cases hv1:zEO tube
 ·rw [hv1] at HV
  clear hv1;go_wp2_with fail
  go_ret;exact ⟨by rw [HV.out];rfl,hb0⟩
 rw [hv1] at HV;clear hv1;by_cases ht:tn=N
 rotate_left
 ·rw [Ye ht] at HV
  have ht2:((tn:Int) != (N:Int))=true:=by rw [bne_iff_ne];omega
  obtain ⟨k0q0,k0q1,k0q2,k0q3,k0q4,k0q5,k0q6,k0q7⟩:=k0.cells8;have kNq0:=kN.cells1;go_wp2_with fail
  go_ret;exact ⟨by rw [HV.out];rfl,hb0⟩
 rw [Yf ht] at HV;have ht2:((tn:Int) != (N:Int))=false:=by rw [ht];simp
 have HT2:=Zh ht;clear ht;obtain ⟨k0q0,k0q1,k0q2,k0q3,k0q4,k0q5,k0q6,k0q7⟩:=k0.cells8;have kNq0:=kN.cells1;go_wp2_with fail
 refine (H4.out _ hb0).mono ?_;rintro e w4 ⟨rfl,hb4x⟩
 clear k0q0 k0q1 k0q2 k0q3 k0q4 k0q5 k0q6 k0q7 kNq0;replace hb0:=zAA hb0 hb4x;replace k0:=k0.next hb4x;replace kN:=kN.next hb4x;clear hb4x;cases hv1:frV fe
 ·rw [hv1] at HV
  clear hv1;go_wp2_with fail
  go_ret;exact ⟨by rw [HV.out];rfl,hb0⟩
 rw [hv1] at HV;clear hv1;by_cases hq:n=N
 rotate_left
 ·rw [Ye hq] at HV
  have hq2:((n:Int) != (N:Int))=true:=by rw [bne_iff_ne];omega
  obtain ⟨k0q0,k0q1,k0q2,k0q3,k0q4,k0q5,k0q6,k0q7⟩:=k0.cells8;have kNq0:=kN.cells1;go_wp2_with fail
  go_ret;exact ⟨by rw [HV.out];rfl,hb0⟩
 rw [Yf hq] at HV;have hq2:((n:Int) != (N:Int))=false:=by rw [hq];simp
 have HQ2:=Zh hq;clear hq;obtain ⟨k0q0,k0q1,k0q2,k0q3,k0q4,k0q5,k0q6,k0q7⟩:=k0.cells8;have kNq0:=kN.cells1;go_wp2_with fail
 refine (H5.out _ hb0).mono ?_;rintro e w5 ⟨rfl,hb5x⟩
 clear k0q0 k0q1 k0q2 k0q3 k0q4 k0q5 k0q6 k0q7 kNq0;replace hb0:=zAA hb0 hb5x;replace k0:=k0.next hb5x;replace kN:=kN.next hb5x;clear hb5x;generalize sqV v N=s at *;go_wp2_with fail
 go_ret;exact ⟨by rw [HV.out];rfl,hb0⟩
theorem zBe (vs:List Value) (x:Ct) (w:World) (h:RC w vs x) (hx:BdC x) (ht:zBx w):Calls Tryz.prog 12 #[.agg vs.toArray] w (zBW (ctV x) w):=by
 have hmf:∀ (fn:Fn) (first cap:Array Value) (w:World),(Instr.makeFunc fn first cap).run Tryz.prog w=.ok (.func fn first cap) w:=fun _ _ _ _=>rfl
 obtain ⟨A,n,c,B,m,d,C,p,q,L,ln,lc,rfl,h1,h2,h3,h4⟩:=h;obtain ⟨pr,od,st,ls⟩:=x;dsimp only at h1 h2 h3 h4 ⊢;have HV:Hid (ctV ⟨pr,od,st,ls⟩=(decide (8<=pr) && decide (pr<=256) && decide (1<=od) && decide (od<=15) && decide (ln<=1000) && decide (1<=n) && decide (n<=4) && frV st && idM st.a && !ls.any (fun l=>!lkV n l))):=by unfold Hid ctV;dsimp only;rw [h1.len,h4.len]
 have r2:RF w [.slice A n c,.slice B m d,.slice C p q] st:=⟨A,n,c,B,m,d,C,p,q,rfl,h1,h2,h3⟩;have H1:=Zh (fun W (hb:Below w.heap.size w W)=>zEQ _ st W (zBs w W _ _ r2 hb) hx.s);have H2:=Zh (fun W (hb:Below w.heap.size w W)=>zJp B m d st.a W (h2.next zAh hb) hx.s.a (ht.next hb));have H3:=Zh (fun W (hb:Below w.heap.size w W) (gN:Nat) (kN:Blk W gN 3 #[.int .i64 n])=>zEP (fun l=>!lkV n l) 46 #[.pointer (some ⟨gN,0,none⟩)] L ln lc ls W (h4.next zBt hb) (zCQ Tryz.func46 (by kernel_rfl) rfl) (fun V us l hb' hm hr=>zHY n gN us l V hr (hx.l l hm) (kN.next hb')));have m1:=h1.cap;have m2:=h1.max;have m3:=h4.cap;have m4:=h4.max;have hb0:=zAA (zAE w (.cells #[.int .i64 pr,.int .i64 od,.slice A n c,.slice B m d,.slice C p q,.slice L ln lc] 29)) (zAE (w.alloc (.cells #[.int .i64 pr,.int .i64 od,.slice A n c,.slice B m d,.slice C p q,.slice L ln lc] 29)) (.cells #[.int .i64 n] 3));have k0:=(Blk.new w 29 #[.int .i64 pr,.int .i64 od,.slice A n c,.slice B m d,.slice C p q,.slice L ln lc]).next (zAE (w.alloc (.cells #[.int .i64 pr,.int .i64 od,.slice A n c,.slice B m d,.slice C p q,.slice L ln lc] 29)) (.cells #[.int .i64 n] 3));have kN:Blk ((w.alloc (.cells #[.int .i64 pr,.int .i64 od,.slice A n c,.slice B m d,.slice C p q,.slice L ln lc] 29)).alloc (.cells #[.int .i64 n] 3)) (w.heap.size+1) 3 #[.int .i64 n]:=Blk.newAt _ _ _ (by simp);clear h1 h2 h3 h4 r2 hx ht;generalize ls.any (fun l=>!lkV n l)=rl at *;generalize idM st.a=ri at *;generalize frV st=rf at *;by_cases e1:8<=pr
 rotate_left
 ·rw [Ye e1] at HV
  clear k0 kN H1 H2 H3;go_enter Tryz.func12,Tryz.ntmps12
  go_wp2_with fail
  go_ret;exact ⟨by rw [HV.out];rfl,hb0⟩
 rw [Yf e1] at HV;by_cases e2:pr<=256
 rotate_left
 ·rw [Ye e2] at HV
  clear k0 kN H1 H2 H3;go_enter Tryz.func12,Tryz.ntmps12
  go_wp2_with fail
  go_ret;exact ⟨by rw [HV.out];rfl,hb0⟩
 rw [Yf e2] at HV;by_cases e3:1<=od
 rotate_left
 ·rw [Ye e3] at HV
  clear k0 kN H1 H2 H3;go_enter Tryz.func12,Tryz.ntmps12
  go_wp2_with fail
  go_ret;exact ⟨by rw [HV.out];rfl,hb0⟩
 rw [Yf e3] at HV;by_cases e4:od<=15
 rotate_left
 ·rw [Ye e4] at HV
  clear k0 kN H1 H2 H3;go_enter Tryz.func12,Tryz.ntmps12
  go_wp2_with fail
  go_ret;exact ⟨by rw [HV.out];rfl,hb0⟩
 rw [Yf e4] at HV;by_cases e5:ln<=1000
 rotate_left
 ·rw [Ye e5] at HV
  clear k0 kN H1 H2 H3;go_enter Tryz.func12,Tryz.ntmps12
  go_wp2_with fail
  go_ret;exact ⟨by rw [HV.out];rfl,hb0⟩
 rw [Yf e5] at HV;by_cases e6:1<=n
 rotate_left
 ·rw [Ye e6] at HV
  clear k0 kN H1 H2 H3;go_enter Tryz.func12,Tryz.ntmps12
  go_wp2_with fail
  go_ret;exact ⟨by rw [HV.out];rfl,hb0⟩
 rw [Yf e6] at HV;by_cases e7:n<=4
 rotate_left
 ·rw [Ye e7] at HV
  clear k0 kN H1 H2 H3;go_enter Tryz.func12,Tryz.ntmps12
  go_wp2_with fail
  go_ret;exact ⟨by rw [HV.out];rfl,hb0⟩
 rw [Yf e7] at HV;go_enter Tryz.func12,Tryz.ntmps12
 go_wp2_with fail
 generalize ((w.alloc (.cells #[.int .i64 pr,.int .i64 od,.slice A n c,.slice B m d,.slice C p q,.slice L ln lc] 29)).alloc (.cells #[.int .i64 n] 3))=W0 at *;refine (H1.out _ hb0).mono ?_;rintro e w1 ⟨rfl,hb1x⟩
 replace hb0:=zAA hb0 hb1x;replace k0:=k0.next hb1x;replace kN:=kN.next hb1x;clear hb1x;cases hv1:rf
 ·rw [hv1] at HV
  clear hv1;go_wp2_with fail
  go_ret;exact ⟨by rw [HV.out];rfl,hb0⟩
 rw [hv1] at HV;clear hv1;obtain ⟨k0q0,k0q1,k0q2,k0q3,k0q4,k0q5⟩:=k0.cells6;have kNq0:=kN.cells1;go_wp2_with fail
 refine (H2.out _ hb0).mono ?_;rintro e w2 ⟨rfl,hb2x⟩
 clear k0q0 k0q1 k0q2 k0q3 k0q4 k0q5 kNq0;replace hb0:=zAA hb0 hb2x;replace k0:=k0.next hb2x;replace kN:=kN.next hb2x;clear hb2x;cases hv1:ri
 ·rw [hv1] at HV
  clear hv1;go_wp2_with fail
  go_ret;exact ⟨by rw [HV.out];rfl,hb0⟩
 rw [hv1] at HV;clear hv1;obtain ⟨k0q0,k0q1,k0q2,k0q3,k0q4,k0q5⟩:=k0.cells6;have kNq0:=kN.cells1;go_wp2_with fail
 refine (H3.out _ hb0 _ kN).mono ?_;rintro e w3 ⟨rfl,hb3x⟩
 clear k0q0 k0q1 k0q2 k0q3 k0q4 k0q5 kNq0;replace hb0:=zAA hb0 hb3x;replace k0:=k0.next hb3x;replace kN:=kN.next hb3x;clear hb3x;go_wp2_with fail
 go_ret;exact ⟨by rw [HV.out];rfl,hb0⟩
theorem zQF:(Tryz.prog.info? 41).map (fun i=>(i.zero,i.size,i.bytes))=some (some (.agg #[.bool false,.slice none 0 0,.int .i64 0]),3,40):=by kernel_rfl
theorem zcX:(Tryz.prog.info? 22).map (fun i=>(i.zero,i.size,i.bytes))=some (some (.slice none 0 0),1,24):=by kernel_rfl
theorem zQG:(Tryz.prog.info? 43).map (fun i=>(i.zero,i.size,i.bytes))=some (some (.agg #[.bool false,.slice none 0 0,.int .i64 0,.bool false,.slice none 0 0,.int .i64 0,.bool false]),7,88):=by kernel_rfl
theorem Blk.set1 {w:World}{g:Nat}{t:TypeId}{a0 a1 a2:Value}(h:Blk w g t #[a0,a1,a2]) (x:Value):Blk (w.setCell ⟨g,1,none⟩ x) g t #[a0,x,a2]:=h.set_ 1 x
theorem zLz {B:Nat}{w:World}{P:World->Prop}{g i:Nat}{v:Value}(h:Ly B w P) (hg:g<B):Ly B (w.setCell ⟨g,i,none⟩ v) P:=
 h.up (by simp [World.setCell]) (Ya _) (fun b hb _=>Yl _ _ _ _ (by show b≠g;omega))
def zhH (d:Dy) (w:World) (e:Ending) (w':World):Prop:=∃A n c,e=.returned (.agg #[.bool d.neg,.slice A n c,.int .i64 d.e])/\Ly w.heap.size w' (fun W=>SL W A n c d.l)/\Below w.heap.size w w'
theorem zCm (vs:List Value) (d:Dy) (w:World) (h:RD w vs d) (hd:Bd d):Calls Tryz.prog 92 #[.agg vs.toArray] w (zhH d w):=by
 obtain ⟨A,n,c,rfl,hs⟩:=h;obtain ⟨neg,l,ex⟩:=d;dsimp only at hs ⊢;have hn:n<=1000:=by have:=hs.len;unfold Bd at hd;dsimp only at hd;omega
 clear hd;have hb0:=zAA (zAE w (.cells #[.bool neg,.slice A n c,.int .i64 ex] 41)) (zAE (w.alloc (.cells #[.bool neg,.slice A n c,.int .i64 ex] 41)) (.cells #[.bool false,.slice none 0 0,.int .i64 0] 41));have ka:=(Blk.new w 41 #[.bool neg,.slice A n c,.int .i64 ex]).next (zAE (w.alloc (.cells #[.bool neg,.slice A n c,.int .i64 ex] 41)) (.cells #[.bool false,.slice none 0 0,.int .i64 0] 41));have kb:Blk ((w.alloc (.cells #[.bool neg,.slice A n c,.int .i64 ex] 41)).alloc (.cells #[.bool false,.slice none 0 0,.int .i64 0] 41)) (w.heap.size+1) 41 #[.bool false,.slice none 0 0,.int .i64 0]:=Blk.newAt _ _ _ (by simp);have HS:=Zh (hs.below hb0);have hsz:((w.alloc (.cells #[.bool neg,.slice A n c,.int .i64 ex] 41)).alloc (.cells #[.bool false,.slice none 0 0,.int .i64 0] 41)).heap.size=w.heap.size+2:=by simp
 clear hs;go_enter Tryz.func92,Tryz.ntmps92
 go_wp2_with fail
 generalize ((w.alloc (.cells #[.bool neg,.slice A n c,.int .i64 ex] 41)).alloc (.cells #[.bool false,.slice none 0 0,.int .i64 0] 41))=W0 at *;refine (zDj A n c l _ HS.out (by omega)).mono ?_;rintro e w1 ⟨A3,n3,c3,rfl,hs3,hf3,hb3⟩
 replace hb0:=zAA hb0 hb3;replace ka:=ka.next hb3;replace kb:=kb.next hb3;have hL:=hs3.ly hf3;have hsz1:=hb3.size;clear hb3 hs3 hf3 HS;obtain ⟨z0,z1,z2⟩:=ka.cells3;have f0:=ka.frozen 0;have f1:=ka.frozen 1;have f2:=ka.frozen 2;have ka2:=ka.set1 (.slice A3 n3 c3);have kb2:=kb.far (p:=⟨w.heap.size,1,none⟩) (by show w.heap.size+1≠w.heap.size;omega) (.slice A3 n3 c3);have hL2:=zLz (g:=w.heap.size) (i:=1) (v:=.slice A3 n3 c3) hL (by omega);have hb2:=hb0.setCell (p:=⟨w.heap.size,1,none⟩) (Ya _) (.slice A3 n3 c3);obtain ⟨t0,t1,t2⟩:=ka2.cells3;obtain ⟨y0,y1,y2⟩:=kb2.cells3;have g0:=kb2.frozen 0;have g1:=kb2.frozen 1;have g2:=kb2.frozen 2;have HL:=Zh hL2;have HB:=Zh hb2;have HK:=Zh kb2;have HZ:=Zh hsz;have HZ1:=Zh hsz1;clear hL hL2 hb0 hb2 ka ka2 kb kb2 hsz hsz1;go_wp2_with fail
 refine Yn (zHV Tryz.results92 rfl (HK.out.set3 _ _ _)) rfl ?_;have h1:=HZ.out;refine ⟨A3,n3,c3,rfl,?_,zAG HB.out (by omega) _ _ _⟩;exact (zLz (zLz (zLz HL.out (by omega)) (by omega)) (by omega)).up (Ya _) (by omega) (fun _ _ _=>rfl)
def zWT (m:List (List Dy)) (w:World) (e:Ending) (w':World):Prop:=∃A c,e=.returned (.slice A m.length c)/\Ly w.heap.size w' (fun W=>Sl 1 RM W A m.length c m)/\Below w.heap.size w w'
theorem zF5 (A:Option Addr) (n c:Nat) (m:List (List Dy)) (w:World) (h:Sl 1 RM w A n c m) (hx:∀l∈m,∀d∈l,Bd d) (hn:n<=1000) (hl:∀l∈m,l.length<=1000):Calls Tryz.prog 94 #[.slice A n c] w (zWT m w):=by
 have m1:=h.cap;have m2:=h.max;have HL:=Zh h.len;have HS:=Zh h;have HX:=Zh hx;have HLL:=Zh hl;clear h hx hl;go_enter Tryz.func94,Tryz.ntmps94
 go_wp2_with fail
 go_loopw [3,11] (fun v i wr=>∃ (k:Nat) (fs:List (List Value)),k<=n/\i=.int .i64 k/\Hid (Acc 22 1 RM w.heap.size w.heap.size wr v fs (m.take k))/\Hid (Below w.heap.size w wr)) (fun _ i _=>n - (intOf i).toNat)
 case atStart=>exact ⟨0,[],by omega,rfl,Acc.nil _ _ _ (Ya _) _,Yp _ _⟩
 case round=>
  obtain ⟨k,fs,hk,rfl,HA,HB⟩:=hrel;by_cases hlt:k<n
  ·obtain ⟨b,off,r,vs,rfl,hbl,hd,hk1,hRR,hc⟩:=HS.out.get hlt
   have HXr:=Zh (HX.out r (Yk hd));have hrl:=HLL.out r (Yk hd);have HT:Hid (m.take (k+1)=m.take k++[r]):=by unfold Hid;rw [List.take_add_one,hd];rfl
   obtain ⟨A1,n1,c1,rfl,hs⟩:=hRR;have qt:=hc 0 _ rfl;rw [Nat.mul_one,Nat.add_zero] at qt;have q0:=(HB.out.cell (p:=⟨b,off+k,none⟩) hbl).trans qt;have HS1:=Zh hs;have hn1:n1<=1000:=by rw [<- hs.len];exact hrl
   have HL1:=Zh hs.len;have m3:=hs.cap;have m4:=hs.max;clear hc qt hk1 hd hrl hs;go_wp2_with fail
   clear q0;generalize wr=Wo at *
   go_loopw [6,17] (fun v i wr=>∃ (j:Nat) (gs:List (List Value)),j<=n1/\i=.int .i64 j/\Hid (Acc 41 3 RD Wo.heap.size Wo.heap.size wr v gs (r.take j))/\Hid (Below Wo.heap.size Wo wr)) (fun _ i _=>n1 - (intOf i).toNat)
   case atStart=>exact ⟨0,[],by omega,rfl,Acc.nil _ _ _ (Ya _) _,Yp _ _⟩
   case round=>
    obtain ⟨j,gs,hj,rfl,HA1,HB1⟩:=hrel;by_cases hlt1:j<n1
    ·obtain ⟨b1,off1,d,us,rfl,hbl1,hd1,hk2,hR1,hc1⟩:=HS1.out.get hlt1
     have HBd:=Zh (HXr.out d (Yk hd1));have HT1:Hid (r.take (j+1)=r.take j++[d]):=by unfold Hid;rw [List.take_add_one,hd1];rfl
     have hbw:=zAt HB.out HB1.out (Ya _);have HR1:=Zh (fun W (hW:Below wr.heap.size wr W)=>zAQ _ _ _ _ hR1 (zAt hbw hW (Ya _)));obtain ⟨DA,dm,dc,rfl,hsd⟩:=hR1;have p0:=(hbw.cell (p:=⟨b1,off1+j*3,none⟩) hbl1).trans (hc1 0 _ rfl);have p1:=(hbw.cell (p:=⟨b1,off1+j*3+1,none⟩) hbl1).trans (hc1 1 _ rfl);have p2:=(hbw.cell (p:=⟨b1,off1+j*3+2,none⟩) hbl1).trans (hc1 2 _ rfl);clear hd1 hc1 hk2 hsd hbw;have hb1:=zAE wr (.cells #[.bool d.neg,.slice DA dm dc,.int .i64 d.e] 41);have HC:=Zh (zCm _ d _ (HR1.out _ hb1) HBd.out);go_wp2_with fail
     refine HC.out.mono ?_;rintro e w2 ⟨NA,nn,nc,rfl,hly,hb2⟩
     have hbA:=zAA hb1 hb2;have hfl:gs.length<=1000:=by have:=HA1.out.len;rw [Yr] at this;omega
     have hb3:=zAE w2 (.cells #[.bool d.neg,.slice NA nn nc,.int .i64 d.e] 41);have HLY:=Zh (hly.up (Nat.le_of_lt (by simp:w2.heap.size<(w2.alloc (.cells #[.bool d.neg,.slice NA nn nc,.int .i64 d.e] 41)).heap.size)) hb1.size (fun b _ hb=>hb3.block b hb));have hbB:=zAA hbA hb3;have HA2:=Zh (HA1.out.keep hbB.size (fun b _ hb=>hbB.block b hb));have HOW:Hid (∀o,_=some o->o<wr.heap.size\/w2.heap.size+1<=o):=fun o ho=>.inl (HA1.out.own.lt o ho).2
     have HBB:=Zh hbB;have hs1:=HB1.out.size;have hs2:=hbA.size;clear p0 p1 p2 hb1 hb2 hbA hb3 hly hbB
     go_wp2_with (at_builtin;go_loud (refine zIK rfl _ _ 22 rfl 41 3 40 _ zQF rfl (by omega) (by omega) Tryz.underlying22 Wo.heap.size Wo.heap.size _ gs (r.take j) rfl HA2.out ⟨w2.heap.size,0,none⟩ 1 [.bool d.neg,.slice NA nn nc,.int .i64 d.e] d rfl rfl ?c1 ?c2 ?c3 ?c4 wr.heap.size (w2.heap.size+1) ?c5 ?c6 HOW.out ?c7 ?_))
     case c1=>
      intro j u hj;rw [zEM]
      match j,hj with
      | 0,hj=>simp at hj;subst hj;simp
      | 1,hj=>simp at hj;subst hj;simp
      | 2,hj=>simp at hj;subst hj;simp
      | n+3,hj=>simp at hj
     case c2=>intro u hu;simp at hu;rcases hu with rfl | rfl | rfl <;> rfl
     case c3=>omega
     case c4=>simp;omega
     case c5=>omega
     case c6=>simp
     case c7=>exact fun W h1 h2=>⟨NA,nn,nc,rfl,HLY.out W (by simpa using h1) (fun b hb1 hb2=>h2 b hb1 (by simpa using hb2))⟩
     intro v' w3 hacc hb4;have HA3:=Zh hacc;have HB3:=Zh ((zAA HB1.out HBB.out).trans hb4);clear hacc hb4;go_wp2_with fail
     go_roundw
     case rel=>exact ⟨j+1,_,by omega,by go_num,by unfold Hid;rw [HT1.out];exact HA3.out,HB3⟩
     case measure=>simp [intOf];omega
    ·obtain rfl:j=n1:=by omega
     have hrn:r.take j=r:=Xd (by rw [HL1.out];exact Ya _);rw [hrn] at HA1;obtain ⟨A3,c3,rfl,hly⟩:=HA1.out.ly;have hs1:=HB1.out.size;have hs0:=HB.out.size;have hfl:fs.length<=1000:=by have:=HA.out.len;rw [Yr] at this;omega
     have hb3:=zAE wr (.cells #[.slice A3 r.length c3] 22);have hbB:=zAA HB1.out hb3;have HLY:=Zh (hly.up (Nat.le_of_lt (by simp:wr.heap.size<(wr.alloc (.cells #[.slice A3 r.length c3] 22)).heap.size)) (Ya _) (fun b _ hb=>hb3.block b hb));have HA2:=Zh (HA.out.keep hbB.size (fun b _ hb=>hbB.block b hb));have HOW:Hid (∀o,_=some o->o<Wo.heap.size\/wr.heap.size+1<=o):=fun o ho=>.inl (HA.out.own.lt o ho).2
     have HBB:=Zh hbB;clear hb3 hbB hly
     go_wp2_with (at_builtin;go_loud (refine zIK rfl _ _ 23 rfl 22 1 24 _ zcX rfl (by omega) (by omega) Tryz.underlying23 w.heap.size w.heap.size _ fs (m.take k) rfl HA2.out ⟨wr.heap.size,0,none⟩ 1 [.slice A3 r.length c3] r rfl rfl ?c1 ?c2 ?c3 ?c4 Wo.heap.size (wr.heap.size+1) ?c5 ?c6 HOW.out ?c7 ?_))
     case c1=>
      intro j u hj;rw [zEM]
      match j,hj with
      | 0,hj=>simp at hj;subst hj;simp
      | n+1,hj=>simp at hj
     case c2=>intro u hu;simp at hu;subst hu;rfl
     case c3=>omega
     case c4=>simp;omega
     case c5=>omega
     case c6=>simp
     case c7=>exact fun W h1 h2=>⟨A3,r.length,c3,rfl,HLY.out W (by simpa using h1) (fun b hb1 hb2=>h2 b hb1 (by simpa using hb2))⟩
     intro v' w3 hacc hb4;have HA3:=Zh hacc;have HB3:=Zh ((zAA HB.out HBB.out).trans hb4);clear hacc hb4;go_wp2_with fail
     go_roundw
     case rel=>exact ⟨k+1,_,by omega,by go_num,by unfold Hid;rw [HT.out];exact HA3.out,HB3⟩
     case measure=>simp [intOf];omega
  ·obtain rfl:k=n:=by omega
   have hmn:m.take k=m:=Xd (by rw [HL.out];exact Ya _);rw [hmn] at HA;go_wp2_with fail
   go_ret;obtain ⟨A3,c3,rfl,hly⟩:=HA.out.ly;exact ⟨A3,c3,rfl,hly,HB.out⟩
def zhG (xs:List Iv) (w:World) (e:Ending) (w':World):Prop:=∃v fs,e=.returned v/\Acc 43 7 RI w.heap.size w.heap.size w' v fs xs/\Below w.heap.size w w'
theorem zEU (A:Option Addr) (n c:Nat) (xs:List Iv) (w:World) (h:Sl 7 RI w A n c xs) (hx:∀x∈xs,BdI x) (hn:n<=1000):Calls Tryz.prog 93 #[.slice A n c] w (zhG xs w):=by
 have m1:=h.cap;have m2:=h.max;have HL:=Zh h.len;have HS:=Zh h;have HX:=Zh hx;clear h hx;go_enter Tryz.func93,Tryz.ntmps93
 go_wp2_with fail
 go_loopw [3,8] (fun v i wr=>∃ (k:Nat) (fs:List (List Value)),k<=n/\i=.int .i64 k/\Hid (Acc 43 7 RI w.heap.size w.heap.size wr v fs (xs.take k))/\Hid (Below w.heap.size w wr)) (fun _ i _=>n - (intOf i).toNat)
 case atStart=>exact ⟨0,[],by omega,rfl,Acc.nil _ _ _ (Ya _) _,Yp _ _⟩
 case round=>
  obtain ⟨k,fs,hk,rfl,HA,HB⟩:=hrel;by_cases hlt:k<n
  ·obtain ⟨b,off,x,vs,rfl,hbl,hd,hk1,hR,hc⟩:=HS.out.get hlt
   have HBd:=Zh (HX.out x (Yk hd));have HT:Hid (xs.take (k+1)=xs.take k++[x]):=by unfold Hid;rw [List.take_add_one,hd];rfl
   obtain ⟨A1,n1,c1,A2,n2,c2,rfl,hs1,hs2⟩:=hR;have q0:=(HB.out.cell (p:=⟨b,off+k*7,none⟩) hbl).trans (hc 0 _ rfl);have q1:=(HB.out.cell (p:=⟨b,off+k*7+1,none⟩) hbl).trans (hc 1 _ rfl);have q2:=(HB.out.cell (p:=⟨b,off+k*7+2,none⟩) hbl).trans (hc 2 _ rfl);have q3:=(HB.out.cell (p:=⟨b,off+k*7+3,none⟩) hbl).trans (hc 3 _ rfl);have q4:=(HB.out.cell (p:=⟨b,off+k*7+4,none⟩) hbl).trans (hc 4 _ rfl);have q5:=(HB.out.cell (p:=⟨b,off+k*7+5,none⟩) hbl).trans (hc 5 _ rfl);have q6:=(HB.out.cell (p:=⟨b,off+k*7+6,none⟩) hbl).trans (hc 6 _ rfl);have hb1:=zAE wr (.cells #[.bool x.lo.neg,.slice A1 n1 c1,.int .i64 x.lo.e,.bool x.hi.neg,.slice A2 n2 c2,.int .i64 x.hi.e,.bool x.all] 43);have H1:=Zh (fun W (hW:Below (wr.alloc (.cells #[.bool x.lo.neg,.slice A1 n1 c1,.int .i64 x.lo.e,.bool x.hi.neg,.slice A2 n2 c2,.int .i64 x.hi.e,.bool x.all] 43)).heap.size (wr.alloc (.cells #[.bool x.lo.neg,.slice A1 n1 c1,.int .i64 x.lo.e,.bool x.hi.neg,.slice A2 n2 c2,.int .i64 x.hi.e,.bool x.all] 43)) W)=>zCm [.bool x.lo.neg,.slice A1 n1 c1,.int .i64 x.lo.e] x.lo W ⟨A1,n1,c1,rfl,(hs1.below (zAt HB.out hb1 (Ya _))).below hW⟩ HBd.out.1);have H2:=Zh (fun W (hW:Below (wr.alloc (.cells #[.bool x.lo.neg,.slice A1 n1 c1,.int .i64 x.lo.e,.bool x.hi.neg,.slice A2 n2 c2,.int .i64 x.hi.e,.bool x.all] 43)).heap.size (wr.alloc (.cells #[.bool x.lo.neg,.slice A1 n1 c1,.int .i64 x.lo.e,.bool x.hi.neg,.slice A2 n2 c2,.int .i64 x.hi.e,.bool x.all] 43)) W)=>zCm [.bool x.hi.neg,.slice A2 n2 c2,.int .i64 x.hi.e] x.hi W ⟨A2,n2,c2,rfl,(hs2.below (zAt HB.out hb1 (Ya _))).below hW⟩ HBd.out.2);have hkx:=Blk.new wr 43 #[.bool x.lo.neg,.slice A1 n1 c1,.int .i64 x.lo.e,.bool x.hi.neg,.slice A2 n2 c2,.int .i64 x.hi.e,.bool x.all];have HK:Hid (∀V,Below (wr.alloc (.cells #[.bool x.lo.neg,.slice A1 n1 c1,.int .i64 x.lo.e,.bool x.hi.neg,.slice A2 n2 c2,.int .i64 x.hi.e,.bool x.all] 43)).heap.size (wr.alloc (.cells #[.bool x.lo.neg,.slice A1 n1 c1,.int .i64 x.lo.e,.bool x.hi.neg,.slice A2 n2 c2,.int .i64 x.hi.e,.bool x.all] 43)) V->(fun W=>Blk W wr.heap.size 43 #[.bool x.lo.neg,.slice A1 n1 c1,.int .i64 x.lo.e,.bool x.hi.neg,.slice A2 n2 c2,.int .i64 x.hi.e,.bool x.all]) V):=fun V hV=>hkx.next hV
   have HB1:=Zh hb1;have hz1:(wr.alloc (.cells #[.bool x.lo.neg,.slice A1 n1 c1,.int .i64 x.lo.e,.bool x.hi.neg,.slice A2 n2 c2,.int .i64 x.hi.e,.bool x.all] 43)).heap.size=wr.heap.size+1:=by simp
   clear hc hk1 hd hs1 hs2 hb1 hkx;go_wp2_with fail
   clear q0 q1 q2 q3 q4 q5 q6;generalize wr.alloc (.cells #[.bool x.lo.neg,.slice A1 n1 c1,.int .i64 x.lo.e,.bool x.hi.neg,.slice A2 n2 c2,.int .i64 x.hi.e,.bool x.all] 43)=W0 at *;have hB:=zBw W0;refine wp_region_held_drew (S:=(fun W=>Blk W wr.heap.size 43 #[.bool x.lo.neg,.slice A1 n1 c1,.int .i64 x.lo.e,.bool x.hi.neg,.slice A2 n2 c2,.int .i64 x.hi.e,.bool x.all])) (by kernel_rfl) (HK.out _ hB) (fun hH=>?_);refine tk (i:=0) (oi:=⟨_,_,_,_,_,_⟩) (v:=?_) rfl (by rfl) ?_ hH ?_;rotate_left
   ·(intro w hSw;obtain ⟨p0,p1,p2,p3,p4,p5,p6⟩:=Blk.cells7 hSw;go_simp;try (with_reducible rfl))
   simp only [Act.put,sT,sZ,sS];refine tk (i:=1) (oi:=⟨_,_,_,_,_,_⟩) (v:=?_) rfl (by rfl) ?_ hH ?_;rotate_left
   ·(intro w hSw;obtain ⟨p0,p1,p2,p3,p4,p5,p6⟩:=Blk.cells7 hSw;go_simp;try (with_reducible rfl))
   simp only [Act.put,sT,sZ,sS];refine tk (i:=2) (oi:=⟨_,_,_,_,_,_⟩) (v:=?_) rfl (by rfl) ?_ hH ?_;rotate_left
   ·(intro w hSw;obtain ⟨p0,p1,p2,p3,p4,p5,p6⟩:=Blk.cells7 hSw;go_simp;try (with_reducible rfl))
   simp only [Act.put,sT,sZ,sS];refine tk (i:=4) (oi:=⟨_,_,_,_,_,_⟩) (v:=?_) rfl (by rfl) ?_ hH ?_;rotate_left
   ·(intro w hSw;obtain ⟨p0,p1,p2,p3,p4,p5,p6⟩:=Blk.cells7 hSw;go_simp;try (with_reducible rfl))
   simp only [Act.put,sT,sZ,sS];refine tk (i:=5) (oi:=⟨_,_,_,_,_,_⟩) (v:=?_) rfl (by rfl) ?_ hH ?_;rotate_left
   ·(intro w hSw;obtain ⟨p0,p1,p2,p3,p4,p5,p6⟩:=Blk.cells7 hSw;go_simp;try (with_reducible rfl))
   simp only [Act.put,sT,sZ,sS];refine tk (i:=7) (oi:=⟨_,_,_,_,_,_⟩) (v:=?_) rfl (by rfl) ?_ hH ?_;rotate_left
   ·(intro w hSw;obtain ⟨p0,p1,p2,p3,p4,p5,p6⟩:=Blk.cells7 hSw;go_simp;try (with_reducible rfl))
   simp only [Act.put,sT,sZ,sS];refine tk (i:=8) (oi:=⟨_,_,_,_,_,_⟩) (v:=?_) rfl (by rfl) ?_ hH ?_;rotate_left
   ·(intro w hSw;obtain ⟨p0,p1,p2,p3,p4,p5,p6⟩:=Blk.cells7 hSw;go_simp;try (with_reducible rfl))
   simp only [Act.put,sT,sZ,sS];refine Yj (rs:=[3]) (by kernel_rfl) (by simp) ?_;refine Yc (o:=⟨_,_,_,_,_,_⟩) rfl (fun K hK=>?_) Yd
   go_simp
   refine (H1.out _ hB).mono ?_;rintro e V1 ⟨NA,nn,nc,rfl,hly1,hc⟩
   have HLy1:=Zh hly1;have HS1:=Zh hc;have hB1:=hB.size;replace hB:=zAA hB hc;have HKp:=Zh (HK.out _ hB);clear hc hly1;go_wp2_with fail
   refine hK.out _ _ (HKp.out) (fun hH=>?_);clear hK K;refine Yj (rs:=[6]) (by kernel_rfl) (by simp) ?_;refine Yc (o:=⟨_,_,_,_,_,_⟩) rfl (fun K hK=>?_) Yd
   go_simp
   refine (H2.out _ hB).mono ?_;rintro e V2 ⟨MA,mn,mc,rfl,hly2,hc⟩
   have HLy2:=Zh hly2;have HS2:=Zh hc;have hB2:=hB.size;replace hB:=zAA hB hc;have HKp:=Zh (HK.out _ hB);clear hc hly2;go_wp2_with fail
   refine hK.out _ _ (HKp.out) (fun hH=>?_);clear hK K;refine tk (i:=9) (oi:=⟨_,_,_,_,_,_⟩) (v:=?_) rfl (by rfl) ?_ hH ?_;rotate_left
   ·(intro w hSw;obtain ⟨p0,p1,p2,p3,p4,p5,p6⟩:=Blk.cells7 hSw;go_simp;try (with_reducible rfl))
   simp only [Act.put,sT,sZ,sS];refine Yj (rs:=[10]) (by kernel_rfl) (by simp) ?_;refine Yc (o:=⟨_,_,_,_,_,_⟩) rfl (fun K hK=>?_) Yd
   go_simp
   have HZ:=Zh hB.size;have hn1:=zAE V2 (.cells #[.bool x.lo.neg,.slice NA nn nc,.int .i64 x.lo.e,.bool x.hi.neg,.slice MA mn mc,.int .i64 x.hi.e,.bool x.all] 43);have HNB:Hid (Blk (V2.alloc (.cells #[.bool x.lo.neg,.slice NA nn nc,.int .i64 x.lo.e,.bool x.hi.neg,.slice MA mn mc,.int .i64 x.hi.e,.bool x.all] 43)) V2.heap.size 43 #[.bool x.lo.neg,.slice NA nn nc,.int .i64 x.lo.e,.bool x.hi.neg,.slice MA mn mc,.int .i64 x.hi.e,.bool x.all]):=Blk.new V2 _ _;have hsx:(V2.alloc (.cells #[.bool x.lo.neg,.slice NA nn nc,.int .i64 x.lo.e,.bool x.hi.neg,.slice MA mn mc,.int .i64 x.hi.e,.bool x.all] 43)).heap.size=V2.heap.size+1:=by simp
   have HHV2:=Zh hB;replace hB:=zAA hB hn1;have HN1:=Zh hn1;replace HKp:=Zh (HK.out _ hB);clear hn1;generalize (V2.alloc (.cells #[.bool x.lo.neg,.slice NA nn nc,.int .i64 x.lo.e,.bool x.hi.neg,.slice MA mn mc,.int .i64 x.hi.e,.bool x.all] 43))=wX at *;refine hK.out _ _ (HKp.out) (fun hH=>?_);clear hK K;refine Yj (rs:=[11]) (by kernel_rfl) (by simp) ?_;refine Yc (o:=⟨_,_,_,_,_,_⟩) rfl (fun K hK=>?_) Yd;have hzA:=HB.out.size;have hzB:=HB1.out.size;have hzC:=HS1.out.size;have hzD:=HS2.out.size;have hbB:=zAA HB1.out hB;have HA2:=Zh (HA.out.keep hbB.size (fun b _ hb=>hbB.block b hb));have HOW:Hid (∀o,_=some o->o<W0.heap.size\/V2.heap.size<=o):=fun o ho=>.inl (by have:=(HA.out.own.lt o ho).2;omega)
   have hfl:fs.length<=1000:=by have:=HA.out.len;rw [Yr] at this;omega
   refine zGL rfl _ _ 24 rfl 43 7 88 _ zQG rfl (by omega) (by omega) Tryz.underlying24 w.heap.size w.heap.size _ fs (xs.take k) rfl HA2.out ⟨V2.heap.size,0,none⟩ 1 [.bool x.lo.neg,.slice NA nn nc,.int .i64 x.lo.e,.bool x.hi.neg,.slice MA mn mc,.int .i64 x.hi.e,.bool x.all] x rfl rfl ?c1 ?c2 ?c3 ?c4 W0.heap.size V2.heap.size ?c5 ?c6 HOW.out ?c7 ?_
   case c1=>
    intro j u hj;rw [zEM,Blk.cell HNB.out]
    simpa using hj
   case c2=>intro u hu;simp at hu;rcases hu with rfl | rfl | rfl | rfl | rfl | rfl | rfl <;> rfl
   case c3=>omega
   case c4=>have:=hbB.size;omega
   case c5=>omega
   case c6=>omega
   case c7=>
    intro W h1 h2;have e1:=HLy1.out W (by omega) (fun b hb1 hb2=>(h2 b (by omega) (by omega)).trans ((HN1.out.block b (by omega)).trans (HS2.out.block b hb2)));have e2:=HLy2.out W (by omega) (fun b hb1 hb2=>(h2 b (by omega) hb2).trans (HN1.out.block b hb2));exact ⟨_,_,_,_,_,_,rfl,e1,e2⟩
   intro v' w3 hacc hb3 hg3;have HA3:=Zh hacc;have HB3:=Zh ((zAA HB.out hbB).trans hb3);replace HKp:=Zh ((hg3.block wr.heap.size (by omega) (fun e=>by have:=(HA.out.own.lt _ e.symm).2;omega)).trans HKp.out);clear hacc hb3 hbB hg3;refine hK.out _ _ (HKp.out) (fun hH=>?_);clear hK K;refine Yj (rs:=[12]) (by kernel_rfl) (by simp) ?_;refine Yc (o:=⟨_,_,_,_,_,_⟩) rfl (fun K hK=>?_) Yd
   go_simp
   skip
   refine hK.out _ _ (HKp.out) (fun hH=>?_);clear hK K;refine wpAnyH_done (by kernel_rfl) ?_ _;go_wp2_with fail
   go_roundw
   case rel=>exact ⟨k+1,_,by omega,by go_num,by unfold Hid;rw [HT.out];exact HA3.out,HB3⟩
   case measure=>simp [intOf];omega
  ·obtain rfl:k=n:=by omega
   have hmn:xs.take k=xs:=Xd (by rw [HL.out];exact Ya _);rw [hmn] at HA;go_wp2_with fail
   go_ret;exact ⟨_,_,rfl,HA.out,HB.out⟩
theorem zJy {v:Int}{a:Nat}(h:v=(a:Int)) (ha:a<18446744073709551616):bits .and .u64 v 4294967295%4294967296=((a%4294967296:Nat):Int):=by
 rw [h];exact zIt a ha
theorem zKH (A:Option Addr) (n c k:Nat) (l:List Nat) (w:World) (h:SL w A n c l) (hn:n<=1000) (hk:k<=1000000) :
  Calls Tryz.prog 188 #[.slice A n c,.int .i64 (k:Int)] w (zPh (zAa (val l*2^k)) w):=by
 have hcap:=h.cap;have hmax:=h.max;obtain ⟨V,hV⟩:∃V,V=val l*2^(k%32):=⟨_,rfl⟩;have HVV:=Zh hV;clear hV;have HL:=Zh h.len;go_enter Tryz.func188,Tryz.ntmps188
 go_wp2_with (at_make;refine zCl rfl (.tmp 10) (.tmp 10) _ 109 rfl zAw Tryz.underlying39 .i64 .i64 _ _ (k / 32) (k / 32) rfl rfl (by omega) (by omega) (by omega) (by omega) ?_;intro w1 hr1 hb1 hs1)
 have ho1:Own w1 w.heap.size 109 (.slice (some ⟨w.heap.size,0,none⟩) (k / 32) (k / 32)) (List.replicate (k / 32) 0):=Own.made hr1 (Ya _) (by omega) (by omega);clear hr1
 go_loopw [5,6,7] (fun v cy i wr=>∃j z:Nat,j<=n/\i=.int .i64 j/\cy=.int .u64 (z:Int)/\z<4294967296/\Hid (z=zNC l (k%32) j)/\Own wr w.heap.size 109 v (List.replicate (k / 32) 0++zDW j V)/\Below w.heap.size w wr) (fun _ _ i _=>n - (intOf i).toNat)
 case atStart=>exact ⟨0,0,Nat.zero_le _,rfl,rfl,by omega,(zKP _ _).symm,by simpa [zDW] using ho1,hb1⟩
 case round=>
  obtain ⟨j,z,hj,rfl,rfl,hz,HZ,hr,hb⟩:=hrel;have hlenr:(List.replicate (k / 32) 0++zDW j V).length=k / 32+j:=by rw [Yu,List.length_replicate,zAb]
  by_cases hlt:j<n
  ·obtain ⟨b,off,x,rfl,hxb,hx,hcell,hxlt⟩:=(h.below hb).get hlt
   obtain ⟨e1,e2,e3,e4⟩:=zPD h.lt (zBE hx) HZ.out (show k%32<32 from by omega);rw [<- HVV.out] at e2;have HE2:=Zh e2;have HE3:=Zh e3;have HLR:=Zh hlenr;clear hx e2 e3 hlenr;generalize 2^(k%32)*x+z=s at *;have hs3:s / 4294967296<4294967296:=by omega
   go_wp2_with (at_builtin;refine zAx rfl (.tmp 29) (.tmp 33) _ rfl 109 zAw Tryz.underlying39 w.heap.size _ (List.replicate (k / 32) 0++zDW j V) rfl (hr.alloc _) _ 1 1 [dig V j] rfl (SL.oneI _ _ _ _ (by rw [zIt s (by omega),HE2.out]) (zC3 _ _)) (by rw [HLR.out];omega) (by have:=hb.size;simp;omega) ?_;intro v1 w2 hown1 hb2)
   rw [List.append_assoc,<- zA9] at hown1;have hbw:=(hb.alloc hb.size _).trans hb2
   go_roundw
   case rel=>exact ⟨j+1,s / 4294967296,by omega,by go_num,by go_num,hs3,HE3,hown1,hbw⟩
   case measure=>simp [intOf];omega
  ·obtain rfl:j=n:=by omega
   have HE2:Hid (z=dig V j):=by unfold Hid;rw [HVV.out,zMH l h.lt _ j (by omega) (by rw [h.len];omega),<- HZ.out]
   have HLR:=Zh hlenr;clear hlenr
   go_wp2_with (at_builtin;refine zAx rfl (.tmp 37) (.tmp 40) _ rfl 109 zAw Tryz.underlying39 w.heap.size _ (List.replicate (k / 32) 0++zDW j V) rfl (hr.alloc _) _ 1 1 [dig V j] rfl (SL.oneI _ _ _ _ (by rw [<- HE2.out]) (zC3 _ _)) (by rw [HLR.out];omega) (by have:=hb.size;simp;omega) ?_;intro v1 w2 hown1 hb2;fail_if_success done)
   rw [List.append_assoc,<- zA9] at hown1;have hbw:=(hb.alloc hb.size _).trans hb2;obtain ⟨A1,c1,rfl,hs1,hf1⟩:=hown1.sl ((zCh _).append (zBg _ _));have hval:val (List.replicate (k / 32) 0++zDW (j+1) V)=val l*2^k:=by
    rw [zEF,zDR,List.length_replicate,zAy (by rw [HVV.out];exact zRn l h.lt _ j (by omega) (by rw [h.len];omega)),HVV.out,zBS,Nat.zero_add,Nat.mul_comm,Yz,<- Nat.pow_add,show k%32+32*(k / 32)=k from by omega]
   have HVL:=Zh hval;clear hval;have hlen2:(List.replicate (k / 32) 0++zDW (j+1) V).length<=1000000:=by rw [Yu,List.length_replicate,zAb];omega
   generalize List.replicate (k / 32) 0++zDW (j+1) V=ll at *;generalize hll:ll.length=LL at *;clear hll;refine (zDs A1 LL c1 ll _ hs1 hlen2).mono ?_;rw [HVL.out];rintro e w3 ⟨A3,n3,c3,rfl,hs3,hf3,hb3⟩
   go_wp2_with fail
   go_ret;exact ⟨_,_,_,rfl,hs3,hf3.mono hbw.size,zAt hbw hb3 (Ya _)⟩
theorem zG5 (l l':List Nat) (h:zAV l) (h':zAV l') {j z x y:Nat}(hx:lim l j=x) (hy:lim l' j=y) (hz:z=zJJ l l' j) :
  (z+x+y)%4294967296=dig (val l+val l') j/\(z+x+y) / 4294967296=zJJ l l' (j+1)/\z<=1/\x<4294967296/\y<4294967296:=by
 have e1:=zFP l l' j;have e2:=zDd l l' j;have e3:=zNW l l' h h' j;have e4:=zG2 h j;have e5:=zG2 h' j;rw [hx] at e1 e2 e4;rw [hy] at e1 e2 e5;rw [<- hz] at e1 e2 e3;rw [e1,e2,show z+x+y=x+y+z by omega];exact ⟨rfl,rfl,e3,e4,e5⟩
theorem zOu (A B:Option Addr) (n c m d:Nat) (l l':List Nat) (w:World) (h:SL w A n c l) (h':SL w B m d l') (hn:n<=100000) (hm:m<=100000) :
  Calls Tryz.prog 190 #[.slice A n c,.slice B m d] w (zPh (zAa (val l+val l')) w):=by
 have hcap:=h.cap;have hmax:=h.max;have hcap':=h'.cap;have hmax':=h'.max;obtain ⟨V,hV⟩:∃V,V=val l+val l':=⟨_,rfl⟩;rw [<- hV];have HVV:=Zh hV;clear hV;have HL:=Zh h.len;have HL':=Zh h'.len;go_enter Tryz.func190,Tryz.ntmps190
 go_wp2_with fail
 go_loopw [5,6,7] (fun v cy i wr=>∃j z:Nat,j<=n+m/\i=.int .i64 j/\cy=.int .u64 (z:Int)/\z<=1/\Hid (z=zJJ l l' j)/\Own wr w.heap.size 109 v (zDW j V)/\Below w.heap.size w wr) (fun _ _ i _=>n+m - (intOf i).toNat)
 case atStart=>exact ⟨0,0,Nat.zero_le _,rfl,rfl,by omega,(zGT _ _).symm,Own.nil _ _ _,Yp _ _⟩
 case round=>
  obtain ⟨j,z,hj,rfl,rfl,hz,HZ,hr,hb⟩:=hrel;by_cases hlt:j<n
  ·obtain ⟨b,off,x,rfl,hxb,hx,hcell,hxlt⟩:=(h.below hb).get hlt
   by_cases hlt':j<m
   ·obtain ⟨b',off',y,rfl,hyb,hy,hcelly,hylt⟩:=(h'.below hb).get hlt'
    obtain ⟨e1,e2,-⟩:=zG5 l l' h.lt h'.lt (zBE hx) (zBE hy) HZ.out;rw [<- HVV.out] at e1;have HE1:=Zh e1;have HE2:=Zh e2;clear e1 e2 hx hy
    go_wp2_with (at_builtin;refine zAx rfl (.tmp 44) (.tmp 48) _ rfl 109 zAw Tryz.underlying39 w.heap.size _ (zDW j V) rfl (hr.alloc _) _ 1 1 [dig V j] rfl (SL.oneI _ _ _ _ (by rw [zJy (a:=z+x+y) (by omega) (by omega),HE1.out]) (zC3 _ _)) (by rw [zAb];omega) (by have:=hb.size;simp;omega) ?_;intro v1 w2 hown1 hb2)
    rw [<- zA9] at hown1;have hbw:=(hb.alloc hb.size _).trans hb2
    go_roundw
    case rel=>exact ⟨j+1,(z+x+y) / 4294967296,by omega,by go_num,by go_num,by omega,HE2,hown1,hbw⟩
    case measure=>simp [intOf];omega
   ·obtain ⟨e1,e2,-⟩:=zG5 l l' h.lt h'.lt (zBE hx) (zCB (by rw [HL'.out];omega)) HZ.out
    rw [<- HVV.out] at e1;have HE1:=Zh e1;have HE2:=Zh e2;clear e1 e2 hx
    go_wp2_with (at_builtin;refine zAx rfl (.tmp 44) (.tmp 48) _ rfl 109 zAw Tryz.underlying39 w.heap.size _ (zDW j V) rfl (hr.alloc _) _ 1 1 [dig V j] rfl (SL.oneI _ _ _ _ (by rw [zJy (a:=z+x+0) (by omega) (by omega),HE1.out]) (zC3 _ _)) (by rw [zAb];omega) (by have:=hb.size;simp;omega) ?_;intro v1 w2 hown1 hb2)
    rw [<- zA9] at hown1;have hbw:=(hb.alloc hb.size _).trans hb2
    go_roundw
    case rel=>exact ⟨j+1,(z+x+0) / 4294967296,by omega,by go_num,by go_num,by omega,HE2,hown1,hbw⟩
    case measure=>simp [intOf];omega
  ·by_cases hlt':j<m
   ·obtain ⟨b',off',y,rfl,hyb,hy,hcelly,hylt⟩:=(h'.below hb).get hlt'
    obtain ⟨e1,e2,-⟩:=zG5 l l' h.lt h'.lt (zCB (by rw [HL.out];omega)) (zBE hy) HZ.out;rw [<- HVV.out] at e1;have HE1:=Zh e1;have HE2:=Zh e2;clear e1 e2 hy
    go_wp2_with (at_builtin;refine zAx rfl (.tmp 44) (.tmp 48) _ rfl 109 zAw Tryz.underlying39 w.heap.size _ (zDW j V) rfl (hr.alloc _) _ 1 1 [dig V j] rfl (SL.oneI _ _ _ _ (by rw [zJy (a:=z+0+y) (by omega) (by omega),HE1.out]) (zC3 _ _)) (by rw [zAb];omega) (by have:=hb.size;simp;omega) ?_;intro v1 w2 hown1 hb2)
    rw [<- zA9] at hown1;have hbw:=(hb.alloc hb.size _).trans hb2
    go_roundw
    case rel=>exact ⟨j+1,(z+0+y) / 4294967296,by omega,by go_num,by go_num,by omega,HE2,hown1,hbw⟩
    case measure=>simp [intOf];omega
   ·have HE2:Hid (z=dig V j):=by unfold Hid;rw [HVV.out,zIP l l' j h.lt h'.lt (by rw [h.len];omega) (by rw [h'.len];omega),<- HZ.out]
    have hVlt:V<4294967296^(j+1):=by rw [HVV.out];exact zNX l l' j h.lt h'.lt (by rw [h.len];omega) (by rw [h'.len];omega)
    have HVL:=Zh (zAy hVlt);clear hVlt
    go_wp2_with (at_builtin;refine zAx rfl (.tmp 52) (.tmp 55) _ rfl 109 zAw Tryz.underlying39 w.heap.size _ (zDW j V) rfl (hr.alloc _) _ 1 1 [dig V j] rfl (SL.oneI _ _ _ _ (by rw [<- HE2.out]) (zC3 _ _)) (by rw [zAb];omega) (by have:=hb.size;simp;omega) ?_;intro v1 w2 hown1 hb2;fail_if_success done)
    rw [<- zA9] at hown1;have hbw:=(hb.alloc hb.size _).trans hb2;obtain ⟨A1,c1,rfl,hs1,hf1⟩:=hown1.sl (zBg _ _);rw [zAb] at hs1 hf1 ⊢;generalize zDW (j+1) V=ll at *;refine (zDs A1 (j+1) c1 ll _ hs1 (by omega)).mono ?_;rw [HVL.out];rintro e w3 ⟨A3,n3,c3,rfl,hs3,hf3,hb3⟩
    go_wp2_with fail
    go_ret;exact ⟨_,_,_,rfl,hs3,hf3.mono hbw.size,zAt hbw hb3 (Ya _)⟩
theorem zH4 (l l':List Nat) (h:zAV l) (h':zAV l') (hle:val l' <= val l) {j z x y:Nat}(hx:lim l j=x) (hy:lim l' j=y) (hz:z=zDa l l' j) :
  (x+4294967296 - (z+y))%4294967296=dig (val l - val l') j/\1 - (x+4294967296 - (z+y)) / 4294967296=zDa l l' (j+1):=by
 have e1:=zLQ l l' h h' hle j;have e2:=zFJ l l' h h' j;have e3:=zLO l l' j;have e4:=zG2 h j;have e5:=zG2 h' j;rw [hx] at e1 e2 e4;rw [hy] at e1 e2 e5;rw [<- hz] at e1 e2 e3;refine ⟨by rw [e1];congr 1;omega,?_⟩;rw [e2]
 split <;> omega
theorem zIE (A B:Option Addr) (n c m d:Nat) (l l':List Nat) (w:World) (h:SL w A n c l) (h':SL w B m d l') (hn:n<=100000) (hle:val l' <= val l) :
  Calls Tryz.prog 192 #[.slice A n c,.slice B m d] w (zPh (zAa (val l - val l')) w):=by
 have hcap:=h.cap;have hmax:=h.max;have hcap':=h'.cap;have hmax':=h'.max;have HLE:=Zh hle;clear hle;obtain ⟨V,hV⟩:∃V,V=val l - val l':=⟨_,rfl⟩;rw [<- hV];have HVV:=Zh hV;clear hV;have HL:=Zh h.len;have HL':=Zh h'.len;go_enter Tryz.func192,Tryz.ntmps192
 go_wp2_with fail
 go_loopw [5,6,7] (fun v cy i wr=>∃j z:Nat,j<=n/\i=.int .i64 j/\cy=.int .u64 (z:Int)/\z<=1/\Hid (z=zDa l l' j)/\Own wr w.heap.size 109 v (zDW j V)/\Below w.heap.size w wr) (fun _ _ i _=>n - (intOf i).toNat)
 case atStart=>exact ⟨0,0,Nat.zero_le _,rfl,rfl,by omega,(zKT _ _).symm,Own.nil _ _ _,Yp _ _⟩
 case round=>
  obtain ⟨j,z,hj,rfl,rfl,hz,HZ,hr,hb⟩:=hrel;by_cases hlt:j<n
  ·obtain ⟨b,off,x,rfl,hxb,hx,hcell,hxlt⟩:=(h.below hb).get hlt
   by_cases hlt':j<m
   ·obtain ⟨b',off',y,rfl,hyb,hy,hcelly,hylt⟩:=(h'.below hb).get hlt'
    obtain ⟨e1,e2⟩:=zH4 l l' h.lt h'.lt HLE.out (zBE hx) (zBE hy) HZ.out;rw [<- HVV.out] at e1;have HE1:=Zh e1;have HE2:=Zh e2;clear e1 e2 hx hy
    go_wp2_with (at_builtin;refine zAx rfl (.tmp 36) (.tmp 40) _ rfl 109 zAw Tryz.underlying39 w.heap.size _ (zDW j V) rfl (hr.alloc _) _ 1 1 [dig V j] rfl (SL.oneI _ _ _ _ (by rw [zJy (a:=x+4294967296 - (z+y)) (by omega) (by omega),HE1.out]) (zC3 _ _)) (by rw [zAb];omega) (by have:=hb.size;simp;omega) ?_;intro v1 w2 hown1 hb2)
    rw [<- zA9] at hown1;have hbw:=(hb.alloc hb.size _).trans hb2
    go_roundw
    case rel=>exact ⟨j+1,1 - (x+4294967296 - (z+y)) / 4294967296,by omega,by go_num,by go_num,by omega,HE2,hown1,hbw⟩
    case measure=>simp [intOf];omega
   ·obtain ⟨e1,e2⟩:=zH4 l l' h.lt h'.lt HLE.out (zBE hx) (zCB (by rw [HL'.out];omega)) HZ.out
    rw [<- HVV.out] at e1;have HE1:=Zh e1;have HE2:=Zh e2;clear e1 e2 hx
    go_wp2_with (at_builtin;refine zAx rfl (.tmp 36) (.tmp 40) _ rfl 109 zAw Tryz.underlying39 w.heap.size _ (zDW j V) rfl (hr.alloc _) _ 1 1 [dig V j] rfl (SL.oneI _ _ _ _ (by rw [zJy (a:=x+4294967296 - (z+0)) (by omega) (by omega),HE1.out]) (zC3 _ _)) (by rw [zAb];omega) (by have:=hb.size;simp;omega) ?_;intro v1 w2 hown1 hb2)
    rw [<- zA9] at hown1;have hbw:=(hb.alloc hb.size _).trans hb2
    go_roundw
    case rel=>exact ⟨j+1,1 - (x+4294967296 - (z+0)) / 4294967296,by omega,by go_num,by go_num,by omega,HE2,hown1,hbw⟩
    case measure=>simp [intOf];omega
  ·obtain rfl:j=n:=by omega
   have hVlt:V<4294967296^j:=by
    have:=zB0 l h.lt;rw [HL.out] at this;have:=HVV.out;omega
   have HVL:=Zh (zAy hVlt);clear hVlt;obtain ⟨A1,c1,rfl,hs1,hf1⟩:=hr.sl (zBg _ _);rw [zAb] at hs1 hf1 ⊢;generalize zDW j V=ll at *;go_wp2_with fail
   refine (zDs A1 j c1 ll _ hs1 (by omega)).mono ?_;rw [HVL.out];rintro e w3 ⟨A3,n3,c3,rfl,hs3,hf3,hb3⟩
   go_wp2_with fail
   go_ret;exact ⟨_,_,_,rfl,hs3,hf3.mono hb.size,zAt hb hb3 (Ya _)⟩
def zhE (d:Dy) (O:Nat->Prop) (w:World) (e:Ending) (w':World):Prop:=∃A n c,e=.returned (.agg #[.bool d.neg,.slice A n c,.int .i64 d.e])/\SL w' A n c d.l/\(∀g,g<w.heap.size->O g->Off A n g)/\Below w.heap.size w w'
def zhF (d:Dy) (k:Int) (O:Nat->Prop) (w:World) (e:Ending) (w':World):Prop:=∃A n c,e=.returned (.tuple #[.agg #[.bool d.neg,.slice A n c,.int .i64 d.e],.int .i64 k])/\SL w' A n c d.l/\(∀g,g<w.heap.size->O g->Off A n g)/\Below w.heap.size w w'
theorem Off.zero {A:Option Addr}{g:Nat}:Off A 0 g:=fun h=>absurd h (by omega)
def zDr (d d':Dy):Dy:=if d.l=[] then d' else if d'.l=[] then d else
 if d.neg=d'.neg then zAN d.neg (val d.l*2^(d.e - min d.e d'.e).toNat+val d'.l*2^(d'.e - min d.e d'.e).toNat) (min d.e d'.e)
 else if val d'.l*2^(d'.e - min d.e d'.e).toNat<=val d.l*2^(d.e - min d.e d'.e).toNat then zAN d.neg (val d.l*2^(d.e - min d.e d'.e).toNat - val d'.l*2^(d'.e - min d.e d'.e).toNat) (min d.e d'.e)
 else zAN d'.neg (val d'.l*2^(d'.e - min d.e d'.e).toNat - val d.l*2^(d.e - min d.e d'.e).toNat) (min d.e d'.e)
def chk (d:Dy):Dy×Int:=if vld d=true then (d,0) else (zAZ,9)
theorem zGe (n:Bool) (v:Nat) (e:Int):chk (zAN n v e)=zAu n v e:=by
 unfold chk zAu;rw [zFL]
theorem zSA {d d':Dy}(hv:vld d=true) (hv':vld d' = true):chk (zDr d d')=zGM d d':=by
 unfold zDr zGM;by_cases h:d.l=[]
 ·rw [if_pos h,if_pos h];unfold chk;rw [if_pos hv']
 ·rw [if_neg h,if_neg h]
  by_cases h':d'.l=[]
  ·rw [if_pos h',if_pos h'];unfold chk;rw [if_pos hv]
  ·rw [if_neg h',if_neg h']
   generalize val d.l*2^(d.e - min d.e d'.e).toNat=P;generalize val d'.l*2^(d'.e - min d.e d'.e).toNat=Q;unfold zDB;by_cases hn:d.neg=d'.neg
   ·rw [if_pos hn,if_pos hn,zGe]
   ·rw [if_neg hn,if_neg hn]
    by_cases hq:Q<=P
    ·rw [if_pos hq,if_neg (by omega),zGe]
    ·rw [if_neg hq,if_pos (by omega),zGe]
theorem zKV {P Q E k:Nat}(hP:zAT P<=E) (hQ:zAT Q<=E) (hk:E+1<=32*k):(zAa (P+Q)).length<=k/\(zAa P).length<=k/\(zAa Q).length<=k/\(zAa (P - Q)).length<=k/\(zAa (Q - P)).length<=k:=by
 have key:∀v,v<2^(E+1)->(zAa v).length<=k:=fun v hv=>zAP v k (Yq (zBH v _ hv) (by omega))
 have hp:P<2^E:=Yh (zBu P) (Xg (by omega) hP);have hq:Q<2^E:=Yh (zBu Q) (Xg (by omega) hQ);have e:2^(E+1)=2^E+2^E:=by rw [Xi];omega
 rw [e] at key;generalize 2^E=T at *;exact ⟨key _ (by omega),key _ (by omega),key _ (by omega),key _ (by omega),key _ (by omega)⟩
theorem zKU {P Q:Nat}(hP:zAT P<=40000) (hQ:zAT Q<=40000):(zAa (P+Q)).length<=2000/\(zAa P).length<=2000/\(zAa Q).length<=2000/\(zAa (P - Q)).length<=2000/\(zAa (Q - P)).length<=2000:=zKV hP hQ (by omega)
theorem zGY (n:Bool) (v:Nat) (e:Int):(zAN n v e).l.length<=(zAa v).length:=by
 unfold zAN
 split
 ·simp [zAZ]
 ·exact zBQ _ _ (Nat.lt_of_le_of_lt (Nat.div_le_self _ _) (zCy v))
theorem zQq {d d' r:Dy}(hv:vld d=true) (hv':vld d' = true) (h:r=zDr d d'):r.l.length<=2000:=by
 subst h;unfold zDr;by_cases h:d.l=[]
 ·rw [if_pos h];have:=zDE hv';omega
 ·rw [if_neg h]
  by_cases h':d'.l=[]
  ·rw [if_pos h'];have:=zDE hv;omega
  ·rw [if_neg h']
   obtain ⟨_,_,b3,b4,_⟩:=zAU hv h;obtain ⟨_,_,c3,c4,_⟩:=zAU hv' h';have x:=zCO hv;have x':=zCO hv';obtain ⟨s1,_,_,s4,s5⟩:=zKU (P:=val d.l*2^(d.e - min d.e d'.e).toNat) (Q:=val d'.l*2^(d'.e - min d.e d'.e).toNat) (by rw [zAc _ _ (by omega)];omega) (by rw [zAc _ _ (by omega)];omega);generalize val d.l*2^(d.e - min d.e d'.e).toNat=P at *;generalize val d'.l*2^(d'.e - min d.e d'.e).toNat=Q at *
   split
   ·exact Yq (zGY _ _ _) s1
   ·split
    ·exact Yq (zGY _ _ _) s4
    ·exact Yq (zGY _ _ _) s5
theorem zMC (an:Bool) (aA:Option Addr) (aS ac:Nat) (al:List Nat) (ae:Int) (bn:Bool) (bA:Option Addr) (bs bc:Nat) (bl:List Nat) (be:Int) (w:World) (ha:SL w aA aS ac al) (hb:SL w bA bs bc bl) (hva:vld ⟨an,al,ae⟩=true) (hvb:vld ⟨bn,bl,be⟩=true) :
  Calls Tryz.prog 118 #[.agg #[.bool an,.slice aA aS ac,.int .i64 ae],.agg #[.bool bn,.slice bA bs bc,.int .i64 be]] w (zhE (zDr ⟨an,al,ae⟩ ⟨bn,bl,be⟩) (fun g=>Off aA aS g/\Off bA bs g) w):=by
 obtain ⟨mn,hmn⟩:∃mn,min ae be=mn:=⟨_,rfl⟩;have xa:=zCO hva;have xb:=zCO hvb;dsimp only at xa xb;have hsa:aS<=256:=by rw [<- ha.len];exact zDE hva
 have hsb:bs<=256:=by rw [<- hb.len];exact zDE hvb
 by_cases a0:aS=0
 ·subst a0
  have HR:Hid (zDr ⟨an,al,ae⟩ ⟨bn,bl,be⟩=⟨bn,bl,be⟩):=by unfold Hid zDr;rw [if_pos (ha.empty rfl)]
  rw [HR.out];clear HR hmn;go_enter Tryz.func118,Tryz.ntmps118
  have hbw:=zAA (zAA (zAE w (.cells #[.bool an,.slice aA 0 ac,.int .i64 ae] 41)) (zAE (w.alloc (.cells #[.bool an,.slice aA 0 ac,.int .i64 ae] 41)) (.cells #[.bool bn,.slice bA bs bc,.int .i64 be] 41))) (zAE ((w.alloc (.cells #[.bool an,.slice aA 0 ac,.int .i64 ae] 41)).alloc (.cells #[.bool bn,.slice bA bs bc,.int .i64 be] 41)) (.cells #[.bool false,.slice none 0 0,.int .i64 0] 41));have va:=((Var.new w an ae ha).next (zAE (w.alloc (.cells #[.bool an,.slice aA 0 ac,.int .i64 ae] 41)) (.cells #[.bool bn,.slice bA bs bc,.int .i64 be] 41))).next (zAE ((w.alloc (.cells #[.bool an,.slice aA 0 ac,.int .i64 ae] 41)).alloc (.cells #[.bool bn,.slice bA bs bc,.int .i64 be] 41)) (.cells #[.bool false,.slice none 0 0,.int .i64 0] 41));have vb:=(Var.newAt (w.alloc (.cells #[.bool an,.slice aA 0 ac,.int .i64 ae] 41)) bn be (g:=w.heap.size+1) (by simp) (hb.below (zAE w (.cells #[.bool an,.slice aA 0 ac,.int .i64 ae] 41)))).next (zAE ((w.alloc (.cells #[.bool an,.slice aA 0 ac,.int .i64 ae] 41)).alloc (.cells #[.bool bn,.slice bA bs bc,.int .i64 be] 41)) (.cells #[.bool false,.slice none 0 0,.int .i64 0] 41));have kz:=Blk.newAt ((w.alloc (.cells #[.bool an,.slice aA 0 ac,.int .i64 ae] 41)).alloc (.cells #[.bool bn,.slice bA bs bc,.int .i64 be] 41)) 41 #[.bool false,.slice none 0 0,.int .i64 0] (g:=w.heap.size+1+1) (by simp);have oa:Off aA 0 (w.heap.size+1+1):=Off.old ha (by omega);have ob:Off bA bs (w.heap.size+1+1):=Off.old hb (by omega);obtain ⟨aq0,aq1,aq2⟩:=va.cells;obtain ⟨bq0,bq1,bq2⟩:=vb.cells;go_wp2_with fail
  refine Yn (zHV Tryz.results118 rfl (Blk.newAt _ _ _ (by simp))) rfl ?_;exact ⟨bA,bs,bc,rfl,hb.below (zAA (zAA (zAE w _) (zAE _ _)) (zAE _ _)),(fun g _ ho=>ho.2),zAA (zAA (zAE w _) (zAE _ _)) (zAE _ _)⟩
 by_cases b0:bs=0
 ·subst b0
  have HR:Hid (zDr ⟨an,al,ae⟩ ⟨bn,bl,be⟩=⟨an,al,ae⟩):=by unfold Hid zDr;rw [if_neg ((zAL ha).2 a0),if_pos (hb.empty rfl)]
  rw [HR.out];clear HR hmn;have a1:((aS:Int) == 0)=false:=by simp;omega
  go_enter Tryz.func118,Tryz.ntmps118
  have hbw:=zAA (zAA (zAE w (.cells #[.bool an,.slice aA aS ac,.int .i64 ae] 41)) (zAE (w.alloc (.cells #[.bool an,.slice aA aS ac,.int .i64 ae] 41)) (.cells #[.bool bn,.slice bA 0 bc,.int .i64 be] 41))) (zAE ((w.alloc (.cells #[.bool an,.slice aA aS ac,.int .i64 ae] 41)).alloc (.cells #[.bool bn,.slice bA 0 bc,.int .i64 be] 41)) (.cells #[.bool false,.slice none 0 0,.int .i64 0] 41));have va:=((Var.new w an ae ha).next (zAE (w.alloc (.cells #[.bool an,.slice aA aS ac,.int .i64 ae] 41)) (.cells #[.bool bn,.slice bA 0 bc,.int .i64 be] 41))).next (zAE ((w.alloc (.cells #[.bool an,.slice aA aS ac,.int .i64 ae] 41)).alloc (.cells #[.bool bn,.slice bA 0 bc,.int .i64 be] 41)) (.cells #[.bool false,.slice none 0 0,.int .i64 0] 41));have vb:=(Var.newAt (w.alloc (.cells #[.bool an,.slice aA aS ac,.int .i64 ae] 41)) bn be (g:=w.heap.size+1) (by simp) (hb.below (zAE w (.cells #[.bool an,.slice aA aS ac,.int .i64 ae] 41)))).next (zAE ((w.alloc (.cells #[.bool an,.slice aA aS ac,.int .i64 ae] 41)).alloc (.cells #[.bool bn,.slice bA 0 bc,.int .i64 be] 41)) (.cells #[.bool false,.slice none 0 0,.int .i64 0] 41));have kz:=Blk.newAt ((w.alloc (.cells #[.bool an,.slice aA aS ac,.int .i64 ae] 41)).alloc (.cells #[.bool bn,.slice bA 0 bc,.int .i64 be] 41)) 41 #[.bool false,.slice none 0 0,.int .i64 0] (g:=w.heap.size+1+1) (by simp);have oa:Off aA aS (w.heap.size+1+1):=Off.old ha (by omega);have ob:Off bA 0 (w.heap.size+1+1):=Off.old hb (by omega);obtain ⟨aq0,aq1,aq2⟩:=va.cells;obtain ⟨bq0,bq1,bq2⟩:=vb.cells;go_wp2_with fail
  refine Yn (zHV Tryz.results118 rfl (Blk.newAt _ _ _ (by simp))) rfl ?_;exact ⟨aA,aS,ac,rfl,ha.below (zAA (zAA (zAE w _) (zAE _ _)) (zAE _ _)),(fun g _ ho=>ho.1),zAA (zAA (zAE w _) (zAE _ _)) (zAE _ _)⟩
 have a1:((aS:Int) == 0)=false:=by simp;omega
 have b1:((bs:Int) == 0)=false:=by simp;omega
 obtain ⟨u1,u2,u3,u4,-⟩:=zAU hva ((zAL ha).2 a0);obtain ⟨t1,t2,t3,t4,-⟩:=zAU hvb ((zAL hb).2 b0);dsimp only at u3 u4 t3 t4;obtain ⟨i,hi⟩:∃i:Nat,ae - mn=(i:Int):=⟨(ae - mn).toNat,by omega⟩;obtain ⟨j,hj⟩:∃j:Nat,be - mn=(j:Int):=⟨(be - mn).toNat,by omega⟩;have hib:i<=32768:=by omega
 have hjb:j<=32768:=by omega
 obtain ⟨P,hP⟩:∃P,P=val al*2^i:=⟨_,rfl⟩;obtain ⟨Q,hQ⟩:∃Q,Q=val bl*2^j:=⟨_,rfl⟩;obtain ⟨d1,d2,d3,d4,d5⟩:=zKU (P:=P) (Q:=Q) (by rw [hP,zAc _ _ (by omega)];omega) (by rw [hQ,zAc _ _ (by omega)];omega);have HR:Hid (zDr ⟨an,al,ae⟩ ⟨bn,bl,be⟩=if an=bn then zAN an (P+Q) mn else if Q<=P then zAN an (P - Q) mn else zAN bn (Q - P) mn):=by unfold Hid zDr;rw [if_neg ((zAL ha).2 a0),if_neg ((zAL hb).2 b0)];simp only [hmn,hi,hj,Int.toNat_natCast,<- hP,<- hQ]
 generalize zDr ⟨an,al,ae⟩ ⟨bn,bl,be⟩=r at *;have W1:IntKind.i64.wrap (ae - mn)=(i:Int):=by rw [hi];exact IntWalk.i64_in _ (by omega)
 have W2:IntKind.i64.wrap (be - mn)=(j:Int):=by rw [hj];exact IntWalk.i64_in _ (by omega)
 have hm1:-16384<=mn:=by omega
 have hm2:mn<=16384:=by omega
 have HMN:=Zh hmn;have HP:=Zh hP;have HQ:=Zh hQ;clear hmn hi hj hP hQ u1 u2 u3 u4 t1 t2 t3 t4 xa xb a0 b0 hva hvb;go_enter Tryz.func118,Tryz.ntmps118
 have hbw:=zAA (zAA (zAE w (.cells #[.bool an,.slice aA aS ac,.int .i64 ae] 41)) (zAE (w.alloc (.cells #[.bool an,.slice aA aS ac,.int .i64 ae] 41)) (.cells #[.bool bn,.slice bA bs bc,.int .i64 be] 41))) (zAE ((w.alloc (.cells #[.bool an,.slice aA aS ac,.int .i64 ae] 41)).alloc (.cells #[.bool bn,.slice bA bs bc,.int .i64 be] 41)) (.cells #[.bool false,.slice none 0 0,.int .i64 0] 41));have va:=((Var.new w an ae ha).next (zAE (w.alloc (.cells #[.bool an,.slice aA aS ac,.int .i64 ae] 41)) (.cells #[.bool bn,.slice bA bs bc,.int .i64 be] 41))).next (zAE ((w.alloc (.cells #[.bool an,.slice aA aS ac,.int .i64 ae] 41)).alloc (.cells #[.bool bn,.slice bA bs bc,.int .i64 be] 41)) (.cells #[.bool false,.slice none 0 0,.int .i64 0] 41));have vb:=(Var.newAt (w.alloc (.cells #[.bool an,.slice aA aS ac,.int .i64 ae] 41)) bn be (g:=w.heap.size+1) (by simp) (hb.below (zAE w (.cells #[.bool an,.slice aA aS ac,.int .i64 ae] 41)))).next (zAE ((w.alloc (.cells #[.bool an,.slice aA aS ac,.int .i64 ae] 41)).alloc (.cells #[.bool bn,.slice bA bs bc,.int .i64 be] 41)) (.cells #[.bool false,.slice none 0 0,.int .i64 0] 41));have kz:=Blk.newAt ((w.alloc (.cells #[.bool an,.slice aA aS ac,.int .i64 ae] 41)).alloc (.cells #[.bool bn,.slice bA bs bc,.int .i64 be] 41)) 41 #[.bool false,.slice none 0 0,.int .i64 0] (g:=w.heap.size+1+1) (by simp);have oa:Off aA aS (w.heap.size+1+1):=Off.old ha (by omega);have ob:Off bA bs (w.heap.size+1+1):=Off.old hb (by omega);go_wp2_with fail
 generalize ((w.alloc (.cells #[.bool an,.slice aA aS ac,.int .i64 ae] 41)).alloc (.cells #[.bool bn,.slice bA bs bc,.int .i64 be] 41)).alloc (.cells #[.bool false,.slice none 0 0,.int .i64 0] 41)=W0 at *;obtain ⟨aq0,aq1,aq2⟩:=va.cells;obtain ⟨bq0,bq1,bq2⟩:=vb.cells;go_wp2_with fail
 rw [HMN.out];clear aq0 aq1 aq2 bq0 bq1 bq2;have HK:Hid (∀V,Below W0.heap.size W0 V->(fun V=>(V.cell? ⟨w.heap.size,0,none⟩=some (.bool an)/\V.cell? ⟨w.heap.size,1,none⟩=some (.slice aA aS ac)/\V.cell? ⟨w.heap.size,2,none⟩=some (.int .i64 ae))/\(V.cell? ⟨(w.heap.size+1),0,none⟩=some (.bool bn)/\V.cell? ⟨(w.heap.size+1),1,none⟩=some (.slice bA bs bc)/\V.cell? ⟨(w.heap.size+1),2,none⟩=some (.int .i64 be))/\Below W0.heap.size W0 V) V):=fun V hV=>⟨va.keep V hV,vb.keep V hV,hV⟩
 have hB:=zBw W0;refine wp_region_held_drew (S:=(fun V=>(V.cell? ⟨w.heap.size,0,none⟩=some (.bool an)/\V.cell? ⟨w.heap.size,1,none⟩=some (.slice aA aS ac)/\V.cell? ⟨w.heap.size,2,none⟩=some (.int .i64 ae))/\(V.cell? ⟨(w.heap.size+1),0,none⟩=some (.bool bn)/\V.cell? ⟨(w.heap.size+1),1,none⟩=some (.slice bA bs bc)/\V.cell? ⟨(w.heap.size+1),2,none⟩=some (.int .i64 be))/\Below W0.heap.size W0 V)) (by kernel_rfl) (HK.out _ hB) (fun hH=>?_);refine tk (i:=0) (oi:=⟨_,_,_,_,_,_⟩) (v:=?_) rfl (by rfl) ?_ hH ?_;rotate_left
 ·(intro w hSw; (try dsimp only at hSw);go_simp;try (with_reducible rfl))
 simp only [Act.put,sT,sZ,sS];refine tk (i:=1) (oi:=⟨_,_,_,_,_,_⟩) (v:=?_) rfl (by rfl) ?_ hH ?_;rotate_left
 ·(intro w hSw; (try dsimp only at hSw);go_simp;try (with_reducible rfl))
 simp only [Act.put,sT,sZ,sS];refine tk (i:=2) (oi:=⟨_,_,_,_,_,_⟩) (v:=?_) rfl (by rfl) ?_ hH ?_;rotate_left
 ·(intro w hSw; (try dsimp only at hSw);go_simp;try (with_reducible rfl))
 simp only [Act.put,sT,sZ,sS];refine tk (i:=3) (oi:=⟨_,_,_,_,_,_⟩) (v:=?_) rfl (by rfl) ?_ hH ?_;rotate_left
 ·(intro w hSw; (try dsimp only at hSw);go_simp;try (with_reducible rfl))
 simp only [Act.put,sT,sZ,sS];refine tk (i:=4) (oi:=⟨_,_,_,_,_,_⟩) (v:=?_) rfl (by rfl) ?_ hH ?_;rotate_left
 ·(intro w hSw; (try dsimp only at hSw);go_simp;try (with_reducible rfl))
 simp only [Act.put,sT,sZ,sS];refine tk (i:=5) (oi:=⟨_,_,_,_,_,_⟩) (v:=?_) rfl (by rfl) ?_ hH ?_;rotate_left
 ·(intro w hSw; (try dsimp only at hSw);go_simp;try (with_reducible rfl))
 simp only [Act.put,sT,sZ,sS];refine tk (i:=7) (oi:=⟨_,_,_,_,_,_⟩) (v:=?_) rfl (by rfl) ?_ hH ?_;rotate_left
 ·(intro w hSw; (try dsimp only at hSw);go_simp;try (with_reducible rfl))
 simp only [Act.put,sT,sZ,sS];refine tk (i:=8) (oi:=⟨_,_,_,_,_,_⟩) (v:=?_) rfl (by rfl) ?_ hH ?_;rotate_left
 ·(intro w hSw; (try dsimp only at hSw);go_simp;try (with_reducible rfl))
 simp only [Act.put,sT,sZ,sS];refine tk (i:=9) (oi:=⟨_,_,_,_,_,_⟩) (v:=?_) rfl (by rfl) ?_ hH ?_;rotate_left
 ·(intro w hSw; (try dsimp only at hSw);go_simp;try (with_reducible rfl))
 simp only [Act.put,sT,sZ,sS];refine tk (i:=10) (oi:=⟨_,_,_,_,_,_⟩) (v:=?_) rfl (by rfl) ?_ hH ?_;rotate_left
 ·(intro w hSw; (try dsimp only at hSw);go_simp;try (with_reducible rfl))
 simp only [Act.put,sT,sZ,sS];refine tk (i:=11) (oi:=⟨_,_,_,_,_,_⟩) (v:=?_) rfl (by rfl) ?_ hH ?_;rotate_left
 ·(intro w hSw; (try dsimp only at hSw);go_simp;try (with_reducible rfl))
 simp only [Act.put,sT,sZ,sS];refine tk (i:=12) (oi:=⟨_,_,_,_,_,_⟩) (v:=?_) rfl (by rfl) ?_ hH ?_;rotate_left
 ·(intro w hSw; (try dsimp only at hSw);go_simp;try (with_reducible rfl))
 simp only [Act.put,sT,sZ,sS];refine Yj (rs:=[6]) (by kernel_rfl) (by simp) ?_;refine Yc (o:=⟨_,_,_,_,_,_⟩) rfl (fun K hK=>?_) Yd
 go_simp
 refine (zKH aA aS ac i al _ (va.sl.below hB) (by omega) (by omega)).mono ?_;rw [<- HP.out];rintro e w1 ⟨pA,ps,pc,rfl,hsp,hfp,hc⟩
 replace hB:=zAA hB hc;clear hc;go_wp2_with fail
 refine hK.out _ _ (HK.out _ hB) (fun hH=>?_);clear hK K;refine Yj (rs:=[13]) (by kernel_rfl) (by simp) ?_;refine Yc (o:=⟨_,_,_,_,_,_⟩) rfl (fun K hK=>?_) Yd
 go_simp
 refine (zKH bA bs bc j bl _ (vb.sl.below hB) (by omega) (by omega)).mono ?_;rw [<- HQ.out];rintro e w2 ⟨qA,qs,qc,rfl,hsq,hfq,hc⟩
 replace hB:=zAA hB hc;replace hsp:=hsp.below hc;clear hc;go_wp2_with fail
 refine hK.out _ _ (HK.out _ hB) (fun hH=>?_);clear hK K;refine tk (i:=14) (oi:=⟨_,_,_,_,_,_⟩) (v:=?_) rfl (by rfl) ?_ hH ?_;rotate_left
 ·(intro w hSw; (try dsimp only at hSw);go_simp;try (with_reducible rfl))
 simp only [Act.put,sT,sZ,sS];refine tk (i:=15) (oi:=⟨_,_,_,_,_,_⟩) (v:=?_) rfl (by rfl) ?_ hH ?_;rotate_left
 ·(intro w hSw; (try dsimp only at hSw);go_simp;try (with_reducible rfl))
 simp only [Act.put,sT,sZ,sS];refine wpAnyH_done (by kernel_rfl) ?_ _;clear hH HK;replace va:=va.next hB;replace vb:=vb.next hB;replace kz:=kz.below hB kz.lt;replace hbw:=zAA hbw hB;clear hB hfp hfq;have hps:ps<=2000:=by rw [<- hsp.len];exact d2
 have hqs:qs<=2000:=by rw [<- hsq.len];exact d3
 by_cases hnn:an=bn
 ·subst hnn
  replace HR:Hid (r=zAN an (P+Q) mn):=by unfold Hid;rw [HR.out,if_pos rfl]
  obtain ⟨aq0,aq1,aq2⟩:=va.cells;obtain ⟨bq0,bq1,bq2⟩:=vb.cells;go_wp2_with fail
  clear aq0 aq1 aq2 bq0 bq1 bq2;obtain ⟨⟨rn,rl,re⟩,hr⟩:∃d,d=zAN an (P+Q) mn:=⟨_,rfl⟩;rw [<- hr] at HR;have HRR:=Zh hr;clear hr;have HK:Hid (∀V,Below w2.heap.size w2 V->(fun V=>(V.cell? ⟨w.heap.size,0,none⟩=some (.bool an)/\V.cell? ⟨w.heap.size,1,none⟩=some (.slice aA aS ac)/\V.cell? ⟨w.heap.size,2,none⟩=some (.int .i64 ae))) V):=fun V hV=>va.keep V hV
  have hB:=zBw w2;refine wp_region_held_drew (S:=(fun V=>(V.cell? ⟨w.heap.size,0,none⟩=some (.bool an)/\V.cell? ⟨w.heap.size,1,none⟩=some (.slice aA aS ac)/\V.cell? ⟨w.heap.size,2,none⟩=some (.int .i64 ae)))) (by kernel_rfl) (HK.out _ hB) (fun hH=>?_);refine tk (i:=0) (oi:=⟨_,_,_,_,_,_⟩) (v:=?_) rfl (by rfl) ?_ hH ?_;rotate_left
  ·(intro w hSw; (try dsimp only at hSw);go_simp;try (with_reducible rfl))
  simp only [Act.put,sT,sZ,sS];refine tk (i:=1) (oi:=⟨_,_,_,_,_,_⟩) (v:=?_) rfl (by rfl) ?_ hH ?_;rotate_left
  ·(intro w hSw; (try dsimp only at hSw);go_simp;try (with_reducible rfl))
  simp only [Act.put,sT,sZ,sS];refine tk (i:=2) (oi:=⟨_,_,_,_,_,_⟩) (v:=?_) rfl (by rfl) ?_ hH ?_;rotate_left
  ·(intro w hSw; (try dsimp only at hSw);go_simp;try (with_reducible rfl))
  simp only [Act.put,sT,sZ,sS];refine tk (i:=3) (oi:=⟨_,_,_,_,_,_⟩) (v:=?_) rfl (by rfl) ?_ hH ?_;rotate_left
  ·(intro w hSw; (try dsimp only at hSw);go_simp;try (with_reducible rfl))
  simp only [Act.put,sT,sZ,sS];refine tk (i:=5) (oi:=⟨_,_,_,_,_,_⟩) (v:=?_) rfl (by rfl) ?_ hH ?_;rotate_left
  ·(intro w hSw; (try dsimp only at hSw);go_simp;try (with_reducible rfl))
  simp only [Act.put,sT,sZ,sS];refine Yj (rs:=[4]) (by kernel_rfl) (by simp) ?_;refine Yc (o:=⟨_,_,_,_,_,_⟩) rfl (fun K hK=>?_) Yd
  go_simp
  refine (zOu pA qA ps pc qs qc _ _ _ (hsp.below hB) (hsq.below hB) (by omega) (by omega)).mono ?_;rw [zAH,zAH];rintro e w3 ⟨mA,ms,mc,rfl,hsm,hfm,hc⟩
  replace hB:=zAA hB hc;clear hc;go_wp2_with fail
  refine hK.out _ _ (HK.out _ hB) (fun hH=>?_);clear hK K;have hms:ms<=2000:=by rw [<- hsm.len];exact d1
  refine Yj (rs:=[6]) (by kernel_rfl) (by simp) ?_;refine Yc (o:=⟨_,_,_,_,_,_⟩) rfl (fun K hK=>?_) Yd
  go_simp
  refine (zHB an mA ms mc _ mn _ hsm (by omega) (by omega) (by omega)).mono ?_;rw [zAH,<- HRR.out];rintro e w4 ⟨zA,zs,zc,rfl,hsz,hfz,hc⟩
  have oz:Off zA zs (w.heap.size+1+1):=Off.fresh hfz (Yh kz.lt hB.size);have ozz:∀g,g<w.heap.size->Off zA zs g:=fun g hg=>Off.fresh hfz (Yh hg (Yq hbw.size hB.size))
  replace hB:=zAA hB hc;clear hc;go_wp2_with fail
  refine hK.out _ _ (HK.out _ hB) (fun hH=>?_);clear hK K;replace kz:=kz.below hB kz.lt;have vk:=va.next hB;refine Yj (rs:=[7]) (by kernel_rfl) (by simp) ?_;refine Yc (o:=⟨_,_,_,_,_,_⟩) rfl (fun K hK=>?_) Yd;obtain ⟨z0,z1,z2⟩:=kz.cells3;have f0:=kz.frozen 0;have f1:=kz.frozen 1;have f2:=kz.frozen 2
  go_simp
  clear z0 z1 z2 f0 f1 f2;refine hK.out _ _ ((vk.blk.off3 (by omega) _ _ _).cells3) (fun hH=>?_);clear hK K;refine wpAnyH_done (by kernel_rfl) ?_ _;go_wp2_with fail
  refine Yn (zHV Tryz.results118 rfl (kz.set3 _ _ _)) rfl ?_;rw [HR.out];exact ⟨zA,zs,zc,rfl,hsz.off3 oz _ _ _,(fun g hg _=>ozz g hg),zAG (zAA hbw hB) (by omega) _ _ _⟩
 have hnn':(an == bn)=false:=by simp [hnn]
 have HC:Hid (zNq (zAa P) (zAa Q)=zCT P Q):=by unfold Hid;rw [zNr (zAk _) (zAk _) (zDC _) (zDC _),zAH,zAH]
 obtain ⟨aq0,aq1,aq2⟩:=va.cells;obtain ⟨bq0,bq1,bq2⟩:=vb.cells;go_wp2_with fail
 refine (zF0 pA qA ps pc qs qc _ _ _ hsp hsq).mono ?_;rw [HC.out];rintro e w9 ⟨rfl,qd,rfl⟩
 clear aq0 aq1 aq2 bq0 bq1 bq2;have hbd:=zAR (Yp w2.heap.size w2) qd;replace hsp:=hsp.drewN qd;replace hsq:=hsq.drewN qd;replace va:=va.next hbd;replace vb:=vb.next hbd;replace kz:=kz.below hbd kz.lt;replace hbw:=zAA hbw hbd;clear hbd;generalize w2.drewN qd=W9 at *;by_cases hPQ:Q<=P
 ·replace HR:Hid (r=zAN an (P - Q) mn):=by unfold Hid;rw [HR.out,if_neg hnn,if_pos hPQ]
  have hc0:0<=zCT P Q:=by unfold zCT;rw [if_neg (by omega)];split <;> omega
  generalize zCT P Q=cm at *;go_wp2_with fail
  obtain ⟨⟨rn,rl,re⟩,hr⟩:∃d,d=zAN an (P - Q) mn:=⟨_,rfl⟩;rw [<- hr] at HR;have HRR:=Zh hr;clear hr;have HK:Hid (∀V,Below W9.heap.size W9 V->(fun V=>(V.cell? ⟨w.heap.size,0,none⟩=some (.bool an)/\V.cell? ⟨w.heap.size,1,none⟩=some (.slice aA aS ac)/\V.cell? ⟨w.heap.size,2,none⟩=some (.int .i64 ae))) V):=fun V hV=>va.keep V hV
  have hB:=zBw W9;refine wp_region_held_drew (S:=(fun V=>(V.cell? ⟨w.heap.size,0,none⟩=some (.bool an)/\V.cell? ⟨w.heap.size,1,none⟩=some (.slice aA aS ac)/\V.cell? ⟨w.heap.size,2,none⟩=some (.int .i64 ae)))) (by kernel_rfl) (HK.out _ hB) (fun hH=>?_);refine tk (i:=0) (oi:=⟨_,_,_,_,_,_⟩) (v:=?_) rfl (by rfl) ?_ hH ?_;rotate_left
  ·(intro w hSw; (try dsimp only at hSw);go_simp;try (with_reducible rfl))
  simp only [Act.put,sT,sZ,sS];refine tk (i:=1) (oi:=⟨_,_,_,_,_,_⟩) (v:=?_) rfl (by rfl) ?_ hH ?_;rotate_left
  ·(intro w hSw; (try dsimp only at hSw);go_simp;try (with_reducible rfl))
  simp only [Act.put,sT,sZ,sS];refine tk (i:=2) (oi:=⟨_,_,_,_,_,_⟩) (v:=?_) rfl (by rfl) ?_ hH ?_;rotate_left
  ·(intro w hSw; (try dsimp only at hSw);go_simp;try (with_reducible rfl))
  simp only [Act.put,sT,sZ,sS];refine tk (i:=3) (oi:=⟨_,_,_,_,_,_⟩) (v:=?_) rfl (by rfl) ?_ hH ?_;rotate_left
  ·(intro w hSw; (try dsimp only at hSw);go_simp;try (with_reducible rfl))
  simp only [Act.put,sT,sZ,sS];refine tk (i:=5) (oi:=⟨_,_,_,_,_,_⟩) (v:=?_) rfl (by rfl) ?_ hH ?_;rotate_left
  ·(intro w hSw; (try dsimp only at hSw);go_simp;try (with_reducible rfl))
  simp only [Act.put,sT,sZ,sS];refine Yj (rs:=[4]) (by kernel_rfl) (by simp) ?_;refine Yc (o:=⟨_,_,_,_,_,_⟩) rfl (fun K hK=>?_) Yd
  go_simp
  refine (zIE pA qA ps pc qs qc _ _ _ (hsp.below hB) (hsq.below hB) (by omega) (by rw [zAH,zAH];exact hPQ)).mono ?_;rw [zAH,zAH];rintro e w3 ⟨mA,ms,mc,rfl,hsm,hfm,hc⟩
  replace hB:=zAA hB hc;clear hc;go_wp2_with fail
  refine hK.out _ _ (HK.out _ hB) (fun hH=>?_);clear hK K;have hms:ms<=2000:=by rw [<- hsm.len];exact d4
  refine Yj (rs:=[6]) (by kernel_rfl) (by simp) ?_;refine Yc (o:=⟨_,_,_,_,_,_⟩) rfl (fun K hK=>?_) Yd
  go_simp
  refine (zHB an mA ms mc _ mn _ hsm (by omega) (by omega) (by omega)).mono ?_;rw [zAH,<- HRR.out];rintro e w4 ⟨zA,zs,zc,rfl,hsz,hfz,hc⟩
  have oz:Off zA zs (w.heap.size+1+1):=Off.fresh hfz (Yh kz.lt hB.size);have ozz:∀g,g<w.heap.size->Off zA zs g:=fun g hg=>Off.fresh hfz (Yh hg (Yq hbw.size hB.size))
  replace hB:=zAA hB hc;clear hc;go_wp2_with fail
  refine hK.out _ _ (HK.out _ hB) (fun hH=>?_);clear hK K;replace kz:=kz.below hB kz.lt;have vk:=va.next hB;refine Yj (rs:=[7]) (by kernel_rfl) (by simp) ?_;refine Yc (o:=⟨_,_,_,_,_,_⟩) rfl (fun K hK=>?_) Yd;obtain ⟨z0,z1,z2⟩:=kz.cells3;have f0:=kz.frozen 0;have f1:=kz.frozen 1;have f2:=kz.frozen 2
  go_simp
  clear z0 z1 z2 f0 f1 f2;refine hK.out _ _ ((vk.blk.off3 (by omega) _ _ _).cells3) (fun hH=>?_);clear hK K;refine wpAnyH_done (by kernel_rfl) ?_ _;go_wp2_with fail
  refine Yn (zHV Tryz.results118 rfl (kz.set3 _ _ _)) rfl ?_;rw [HR.out];exact ⟨zA,zs,zc,rfl,hsz.off3 oz _ _ _,(fun g hg _=>ozz g hg),zAG (zAA hbw hB) (by omega) _ _ _⟩
 ·replace HR:Hid (r=zAN bn (Q - P) mn):=by unfold Hid;rw [HR.out,if_neg hnn,if_neg hPQ]
  have hc0:zCT P Q<0:=by rw [zCL (by omega)];omega
  generalize zCT P Q=cm at *;go_wp2_with fail
  obtain ⟨⟨rn,rl,re⟩,hr⟩:∃d,d=zAN bn (Q - P) mn:=⟨_,rfl⟩;rw [<- hr] at HR;have HRR:=Zh hr;clear hr;have HK:Hid (∀V,Below W9.heap.size W9 V->(fun V=>(V.cell? ⟨(w.heap.size+1),0,none⟩=some (.bool bn)/\V.cell? ⟨(w.heap.size+1),1,none⟩=some (.slice bA bs bc)/\V.cell? ⟨(w.heap.size+1),2,none⟩=some (.int .i64 be))) V):=fun V hV=>vb.keep V hV
  have hB:=zBw W9;refine wp_region_held_drew (S:=(fun V=>(V.cell? ⟨(w.heap.size+1),0,none⟩=some (.bool bn)/\V.cell? ⟨(w.heap.size+1),1,none⟩=some (.slice bA bs bc)/\V.cell? ⟨(w.heap.size+1),2,none⟩=some (.int .i64 be)))) (by kernel_rfl) (HK.out _ hB) (fun hH=>?_);refine tk (i:=0) (oi:=⟨_,_,_,_,_,_⟩) (v:=?_) rfl (by rfl) ?_ hH ?_;rotate_left
  ·(intro w hSw; (try dsimp only at hSw);go_simp;try (with_reducible rfl))
  simp only [Act.put,sT,sZ,sS];refine tk (i:=1) (oi:=⟨_,_,_,_,_,_⟩) (v:=?_) rfl (by rfl) ?_ hH ?_;rotate_left
  ·(intro w hSw; (try dsimp only at hSw);go_simp;try (with_reducible rfl))
  simp only [Act.put,sT,sZ,sS];refine tk (i:=2) (oi:=⟨_,_,_,_,_,_⟩) (v:=?_) rfl (by rfl) ?_ hH ?_;rotate_left
  ·(intro w hSw; (try dsimp only at hSw);go_simp;try (with_reducible rfl))
  simp only [Act.put,sT,sZ,sS];refine tk (i:=3) (oi:=⟨_,_,_,_,_,_⟩) (v:=?_) rfl (by rfl) ?_ hH ?_;rotate_left
  ·(intro w hSw; (try dsimp only at hSw);go_simp;try (with_reducible rfl))
  simp only [Act.put,sT,sZ,sS];refine tk (i:=5) (oi:=⟨_,_,_,_,_,_⟩) (v:=?_) rfl (by rfl) ?_ hH ?_;rotate_left
  ·(intro w hSw; (try dsimp only at hSw);go_simp;try (with_reducible rfl))
  simp only [Act.put,sT,sZ,sS];refine Yj (rs:=[4]) (by kernel_rfl) (by simp) ?_;refine Yc (o:=⟨_,_,_,_,_,_⟩) rfl (fun K hK=>?_) Yd
  go_simp
  refine (zIE qA pA qs qc ps pc _ _ _ (hsq.below hB) (hsp.below hB) (by omega) (by rw [zAH,zAH];omega)).mono ?_;rw [zAH,zAH];rintro e w3 ⟨mA,ms,mc,rfl,hsm,hfm,hc⟩
  replace hB:=zAA hB hc;clear hc;go_wp2_with fail
  refine hK.out _ _ (HK.out _ hB) (fun hH=>?_);clear hK K;have hms:ms<=2000:=by rw [<- hsm.len];exact d5
  refine Yj (rs:=[6]) (by kernel_rfl) (by simp) ?_;refine Yc (o:=⟨_,_,_,_,_,_⟩) rfl (fun K hK=>?_) Yd
  go_simp
  refine (zHB bn mA ms mc _ mn _ hsm (by omega) (by omega) (by omega)).mono ?_;rw [zAH,<- HRR.out];rintro e w4 ⟨zA,zs,zc,rfl,hsz,hfz,hc⟩
  have oz:Off zA zs (w.heap.size+1+1):=Off.fresh hfz (Yh kz.lt hB.size);have ozz:∀g,g<w.heap.size->Off zA zs g:=fun g hg=>Off.fresh hfz (Yh hg (Yq hbw.size hB.size))
  replace hB:=zAA hB hc;clear hc;go_wp2_with fail
  refine hK.out _ _ (HK.out _ hB) (fun hH=>?_);clear hK K;replace kz:=kz.below hB kz.lt;have vk:=vb.next hB;refine Yj (rs:=[7]) (by kernel_rfl) (by simp) ?_;refine Yc (o:=⟨_,_,_,_,_,_⟩) rfl (fun K hK=>?_) Yd;obtain ⟨z0,z1,z2⟩:=kz.cells3;have f0:=kz.frozen 0;have f1:=kz.frozen 1;have f2:=kz.frozen 2
  go_simp
  clear z0 z1 z2 f0 f1 f2;refine hK.out _ _ ((vk.blk.off3 (by omega) _ _ _).cells3) (fun hH=>?_);clear hK K;refine wpAnyH_done (by kernel_rfl) ?_ _;go_wp2_with fail
  refine Yn (zHV Tryz.results118 rfl (kz.set3 _ _ _)) rfl ?_;rw [HR.out];exact ⟨zA,zs,zc,rfl,hsz.off3 oz _ _ _,(fun g hg _=>ozz g hg),zAG (zAA hbw hB) (by omega) _ _ _⟩
theorem zQj (an:Bool) (aA:Option Addr) (aS ac:Nat) (al:List Nat) (ae:Int) (bn:Bool) (bA:Option Addr) (bs bc:Nat) (bl:List Nat) (be:Int) (w:World) (ha:SL w aA aS ac al) (hb:SL w bA bs bc bl) (hla:aS<=1000000) (hlb:bs<=1000000) :
  Calls Tryz.prog 57 #[.agg #[.bool an,.slice aA aS ac,.int .i64 ae],.agg #[.bool bn,.slice bA bs bc,.int .i64 be]] w (zhF (zCP ⟨an,al,ae⟩ ⟨bn,bl,be⟩).1 (zCP ⟨an,al,ae⟩ ⟨bn,bl,be⟩).2 (fun g=>Off aA aS g/\Off bA bs g) w):=by
 obtain ⟨X,hX⟩:∃X,X=zCP ⟨an,al,ae⟩ ⟨bn,bl,be⟩:=⟨_,rfl⟩;rw [<- hX];have HX:=Zh hX;clear hX;go_enter Tryz.func57,Tryz.ntmps57
 have hbw:=zAA (zAA (zAE w (.cells #[.bool an,.slice aA aS ac,.int .i64 ae] 41)) (zAE (w.alloc (.cells #[.bool an,.slice aA aS ac,.int .i64 ae] 41)) (.cells #[.bool bn,.slice bA bs bc,.int .i64 be] 41))) (zAE ((w.alloc (.cells #[.bool an,.slice aA aS ac,.int .i64 ae] 41)).alloc (.cells #[.bool bn,.slice bA bs bc,.int .i64 be] 41)) (.cells #[.bool false,.slice none 0 0,.int .i64 0] 41));have va:=((Var.new w an ae ha).next (zAE (w.alloc (.cells #[.bool an,.slice aA aS ac,.int .i64 ae] 41)) (.cells #[.bool bn,.slice bA bs bc,.int .i64 be] 41))).next (zAE ((w.alloc (.cells #[.bool an,.slice aA aS ac,.int .i64 ae] 41)).alloc (.cells #[.bool bn,.slice bA bs bc,.int .i64 be] 41)) (.cells #[.bool false,.slice none 0 0,.int .i64 0] 41));have vb:=(Var.newAt (w.alloc (.cells #[.bool an,.slice aA aS ac,.int .i64 ae] 41)) bn be (g:=w.heap.size+1) (by simp) (hb.below (zAE w (.cells #[.bool an,.slice aA aS ac,.int .i64 ae] 41)))).next (zAE ((w.alloc (.cells #[.bool an,.slice aA aS ac,.int .i64 ae] 41)).alloc (.cells #[.bool bn,.slice bA bs bc,.int .i64 be] 41)) (.cells #[.bool false,.slice none 0 0,.int .i64 0] 41));have kz:=Blk.newAt ((w.alloc (.cells #[.bool an,.slice aA aS ac,.int .i64 ae] 41)).alloc (.cells #[.bool bn,.slice bA bs bc,.int .i64 be] 41)) 41 #[.bool false,.slice none 0 0,.int .i64 0] (g:=w.heap.size+1+1) (by simp);have oa:Off aA aS (w.heap.size+1+1):=Off.old ha (by omega);have ob:Off bA bs (w.heap.size+1+1):=Off.old hb (by omega);go_wp2_with fail
 generalize ((w.alloc (.cells #[.bool an,.slice aA aS ac,.int .i64 ae] 41)).alloc (.cells #[.bool bn,.slice bA bs bc,.int .i64 be] 41)).alloc (.cells #[.bool false,.slice none 0 0,.int .i64 0] 41)=W0 at *;refine (zDA an aA aS ac al ae _ va.sl (by omega)).mono ?_;rintro e w1 ⟨rfl,hb1⟩
 replace va:=va.next hb1;replace vb:=vb.next hb1;replace kz:=kz.below hb1 kz.lt;replace hbw:=zAA hbw hb1;clear hb1;cases hva:vld ⟨an,al,ae⟩
 ·have HBAD:Hid (zCP ⟨an,al,ae⟩ ⟨bn,bl,be⟩=(zAZ,1)):=by unfold Hid zCP;rw [hva];rfl
  obtain ⟨z0,z1,z2⟩:=kz.cells3;have f0:=kz.frozen 0;have f1:=kz.frozen 1;have f2:=kz.frozen 2;go_wp2_with fail
  clear z0 z1 z2 f0 f1 f2;refine Yn (zBI Tryz.results57 rfl (kz.set3 _ _ _)) rfl ?_;rw [HX.out,HBAD.out];exact ⟨none,0,0,rfl,SL.nil _,(fun _ _ _=>Off.zero),zAG hbw (by omega) _ _ _⟩
 have HVA:=Zh hva;clear hva;obtain ⟨bq0,bq1,bq2⟩:=vb.cells;go_wp2_with fail
 clear bq0 bq1 bq2;refine (zDA bn bA bs bc bl be _ vb.sl (by omega)).mono ?_;rintro e w2 ⟨rfl,hb2⟩
 replace va:=va.next hb2;replace vb:=vb.next hb2;replace kz:=kz.below hb2 kz.lt;replace hbw:=zAA hbw hb2;clear hb2;cases hvb:vld ⟨bn,bl,be⟩
 ·have HBAD:Hid (zCP ⟨an,al,ae⟩ ⟨bn,bl,be⟩=(zAZ,1)):=by unfold Hid zCP;rw [hvb];simp
  obtain ⟨z0,z1,z2⟩:=kz.cells3;have f0:=kz.frozen 0;have f1:=kz.frozen 1;have f2:=kz.frozen 2;go_wp2_with fail
  clear z0 z1 z2 f0 f1 f2;refine Yn (zBI Tryz.results57 rfl (kz.set3 _ _ _)) rfl ?_;rw [HX.out,HBAD.out];exact ⟨none,0,0,rfl,SL.nil _,(fun _ _ _=>Off.zero),zAG hbw (by omega) _ _ _⟩
 have HVB:=Zh hvb;clear hvb;obtain ⟨aq0,aq1,aq2⟩:=va.cells;obtain ⟨bq0,bq1,bq2⟩:=vb.cells;go_wp2_with fail
 clear aq0 aq1 aq2 bq0 bq1 bq2;have HE:Hid (zCP ⟨an,al,ae⟩ ⟨bn,bl,be⟩=chk (zDr ⟨an,al,ae⟩ ⟨bn,bl,be⟩)):=by unfold Hid zCP;rw [if_pos ⟨HVA.out,HVB.out⟩];rw [zSA HVA.out HVB.out]
 obtain ⟨⟨rn,rl,re⟩,hr⟩:∃d,d=zDr ⟨an,al,ae⟩ ⟨bn,bl,be⟩:=⟨_,rfl⟩;rw [<- hr] at HE;have HRR:=Zh hr;clear hr;refine (zMC an aA aS ac al ae bn bA bs bc bl be _ va.sl vb.sl HVA.out HVB.out).mono ?_;rw [<- HRR.out];rintro e w3 ⟨rA,rs,rc,rfl,hsr,hor,hb3⟩
 have orr:=hor _ kz.lt ⟨oa,ob⟩;have or2:∀g,g<w.heap.size->(Off aA aS g/\Off bA bs g)->Off rA rs g:=fun g hg ho=>hor g (Yh hg hbw.size) ho
 clear hor;dsimp only at hsr;replace va:=va.next hb3;replace vb:=vb.next hb3;replace kz:=kz.below hb3 kz.lt;replace hbw:=zAA hbw hb3;clear hb3;have hrs:rs<=2000:=by rw [<- hsr.len];exact zQq HVA.out HVB.out HRR.out
 go_wp2_with fail
 cases hvr:vld ⟨rn,rl,re⟩
 ·refine (zKB rn rA rs rc rl re _ hsr (by omega) hvr).mono ?_
  rintro e w4 ⟨rfl,hb4⟩
  replace va:=va.next hb4;replace vb:=vb.next hb4;replace kz:=kz.below hb4 kz.lt;replace hbw:=zAA hbw hb4;clear hb4;obtain ⟨z0,z1,z2⟩:=kz.cells3;have f0:=kz.frozen 0;have f1:=kz.frozen 1;have f2:=kz.frozen 2;go_wp2_with fail
  clear z0 z1 z2 f0 f1 f2;refine Yn (zBI Tryz.results57 rfl (kz.set3 _ _ _)) rfl ?_;rw [HX.out,HE.out,chk,hvr];exact ⟨none,0,0,rfl,SL.nil _,(fun _ _ _=>Off.zero),zAG hbw (by omega) _ _ _⟩
 ·refine (zLF rn rA rs rc rl re _ hsr (by omega) hvr).mono ?_
  rintro e w4 ⟨rfl,hb4⟩
  replace va:=va.next hb4;replace vb:=vb.next hb4;replace kz:=kz.below hb4 kz.lt;replace hbw:=zAA hbw hb4;replace hsr:=hsr.below hb4;clear hb4;obtain ⟨z0,z1,z2⟩:=kz.cells3;have f0:=kz.frozen 0;have f1:=kz.frozen 1;have f2:=kz.frozen 2;go_wp2_with fail
  clear z0 z1 z2 f0 f1 f2;refine Yn (zBI Tryz.results57 rfl (kz.set3 _ _ _)) rfl ?_;rw [HX.out,HE.out,chk,hvr];exact ⟨rA,rs,rc,rfl,hsr.off3 orr _ _ _,or2,zAG hbw (by omega) _ _ _⟩
end Go.Proofs.YtchkfjgcbbbffaaGreatDoor
end
