/- Bundle 10: what the law's walk stands on: C5, C6, S5, C11, C13, C16, S6, S2, S11, S20. -/
import Derived.StillTailTactics
import Derived.Deep.DeepCutAuto
import Derived.Test.YtchkfjgcbbbffaaGreatDoorW1
import Derived.Test.YtchkfjgcbbbffaaGreatDoorW2
import Derived.Test.YtchkfjgcbbbffaaGreatDoorW3
import Derived.Test.YtchkfjgcbbbffaaGreatDoorW4
import Derived.Test.YtchkfjgcbbbffaaGreatDoorW9
set_option maxRecDepth 100000
set_option maxHeartbeats 20000000
set_option linter.all false
noncomputable section
namespace Go.Proofs.YtchkfjgcbbbffaaGreatDoor
open Go.RowKit Pl Go.Shelf
def zMZ {α:Type}(p:Nat->α->Bool) (i:Nat):List α->Bool
 | []=>true
 | x::xs=>p i x && zMZ p (i+1) xs
theorem zF9 {α:Type}(p:Nat->α->Bool):∀ (xs:List α) (i:Nat),(∀ (j:Nat) (x:α),xs[j]? = some x->p (i+j) x=true)->zMZ p i xs=true:=by
 intro xs
 induction xs with
 | nil=>intro i _;rfl
 | cons x xs ih=>
  intro i h;simp only [zMZ,Yi];exact ⟨h 0 x rfl,ih (i+1) (fun j y hy=>by have:=h (j+1) y (by simpa using hy);rwa [show i+(j+1)=i+1+j by omega] at this)⟩
theorem zDe {α:Type}(p:Nat->α->Bool):∀ (xs:List α) (i j:Nat) (x:α),xs[j]? = some x->p (i+j) x=false->zMZ p i xs=false:=by
 intro xs
 induction xs with
 | nil=>intro i j x h;simp at h
 | cons y xs ih=>
  intro i j x h hp;cases j with
  | zero=>
   simp at h;subst h;simp only [zMZ];rw [show i+0=i from rfl] at hp;rw [hp];rfl
  | succ j=>
   simp only [zMZ];rw [ih (i+1) j x (by simpa using h) (by rwa [show i+1+j=i+(j+1) by omega]),Bool.and_false]
def zNR:Dy:=⟨false,[1],0⟩
def idC (i k:Nat) (d:Dy):Bool:=decide (zCH d (if i=k then zNR else zAZ)=0)
def zIi (i:Nat) (l:List Dy):Bool:=zMZ (idC i) 0 l
def idM (m:List (List Dy)):Bool:=zMZ zIi 0 m
theorem zSI:zNQ 0=zAZ:=by kernel_rfl
theorem zLt (w:World) (ht:zBx w):Calls Tryz.prog 99 #[.int .i64 0] w (zNV ⟨false,[],0⟩ w):=by
 have:=zEe 0 w (by omega) ht;rw [show zNQ ((0:Nat):Int)=⟨false,[],0⟩ from zSI] at this;exact this
theorem zJp (A:Option Addr) (n c:Nat) (m:List (List Dy)) (w:World) (h:Sl 1 RM w A n c m) (hx:∀l∈m,∀d∈l,Bd d) (ht:zBx w):Calls Tryz.prog 45 #[.slice A n c] w (zBW (idM m) w):=by
 have m1:=h.cap;have m2:=h.max;have HL:=Zh h.len;have HS:=Zh h;have HX:=Zh hx;have HT:=Zh ht;clear h hx ht;go_enter Tryz.func45,Tryz.ntmps45
 go_wp2_with fail
 go_loopw [10] (fun v wr=>∃i:Nat,i<=n/\v=.int .i64 i/\Hid (∀ (j:Nat) (l:List Dy),j<i->m[j]? = some l->zIi j l=true)/\Below w.heap.size w wr) (fun v _=>n - (intOf v).toNat)
 case atStart=>exact ⟨0,Nat.zero_le _,rfl,fun j l hj=>absurd hj (by omega),Yp _ _⟩
 case round=>
  obtain ⟨i,hi,rfl,HZ,hb⟩:=hrel;by_cases hlt:i<n
  ·obtain ⟨b,off,l,vs,rfl,hbl,hml,hk,hR,hc⟩:=HS.out.get hlt
   obtain ⟨A1,n1,c1,rfl,hs⟩:=hR;have qt:=hc 0 _ rfl;rw [Nat.mul_one,Nat.add_zero] at qt;have q0:=(hb.cell (p:=⟨b,off+i,none⟩) hbl).trans qt;have HM:=Zh hml;have HS1:=Zh hs;have HXl:=Zh (HX.out l (Yk hml));have HL1:=Zh hs.len;have m3:=hs.cap;have m4:=hs.max;clear hc qt hk hml hs;go_wp2_with fail
   clear q0
   go_loopw [17] (fun v wi=>∃k:Nat,k<=n1/\v=.int .i64 k/\Hid (∀ (j:Nat) (d:Dy),j<k->l[j]? = some d->idC i j d=true)/\Below w.heap.size w wi) (fun v _=>n1 - (intOf v).toNat)
   case atStart=>exact ⟨0,Nat.zero_le _,rfl,fun j l hj=>absurd hj (by omega),hb⟩
   case round=>
    clear hb;obtain ⟨k,hk,rfl,HZ1,hb⟩:=hrel;by_cases hlt1:k<n1
    ·obtain ⟨b1,off1,d,us,rfl,hbl1,hd,hk1,hR1,hc1⟩:=HS1.out.get hlt1
     have HBd:=Zh (HXl.out d (Yk hd));have HR1:=Zh (fun W (hW:Below w.heap.size w W)=>zAQ _ _ _ _ hR1 hW);obtain ⟨DA,dm,dc,rfl,hsd⟩:=hR1;have p0:=(hb.cell (p:=⟨b1,off1+k*3,none⟩) hbl1).trans (hc1 0 _ rfl);have p1:=(hb.cell (p:=⟨b1,off1+k*3+1,none⟩) hbl1).trans (hc1 1 _ rfl);have p2:=(hb.cell (p:=⟨b1,off1+k*3+2,none⟩) hbl1).trans (hc1 2 _ rfl);obtain ⟨dn,dl,de⟩:=d;have HD:=Zh hd;clear hd hc1 hk1 hsd;dsimp only at p0 p1 p2 HR1;have kd:=Blk.new wr 41 #[.bool dn,.slice DA dm dc,.int .i64 de];have hb1:=zAE wr (.cells #[.bool dn,.slice DA dm dc,.int .i64 de] 41);replace hb:=zAt hb hb1 (Ya _);clear hb1;by_cases hik:i=k
     ·have HE:Hid (idC i k ⟨dn,dl,de⟩=decide (zCH ⟨dn,dl,de⟩ zNR=0)):=by unfold Hid idC;rw [if_pos hik]
      have hik2:((i:Int) == (k:Int))=true:=by rw [hik];simp
      clear hik;go_wp2_with fail
      generalize wr.alloc (.cells #[.bool dn,.slice DA dm dc,.int .i64 de] 41)=W1 at *;generalize wr.heap.size=gd at *;refine (zLt _ (HT.out.next hb)).mono ?_;rintro e w1 ⟨ZA,zn,zc,rfl,hs0,hf0,hb1⟩
      clear p0 p1 p2;replace hb:=zAt hb hb1 (Ya _);replace kd:=kd.next hb1;clear hb1 hs0 hf0;have hgz:=hb.size;have hgd:=Nat.ne_of_lt kd.lt;have kz:=Blk.new w1 41 #[.bool false,.slice ZA zn zc,.int .i64 0];have hb1:=zAE w1 (.cells #[.bool false,.slice ZA zn zc,.int .i64 0] 41);replace hb:=zAt hb hb1 (Ya _);replace kd:=kd.next hb1;clear hb1;go_wp2_with fail
      generalize w1.alloc (.cells #[.bool false,.slice ZA zn zc,.int .i64 0] 41)=W2 at *;generalize w1.heap.size=gz at *;refine (zSW _ (HT.out.next hb)).mono ?_;rintro e w2 ⟨OA,on,oc,rfl,hs1,hf1,hb1⟩
      replace hb:=zAt hb hb1 (Ya _);replace kd:=kd.next hb1;have hoff:=Off.fresh hf1 kz.lt;replace kz:=kz.next hb1;clear hb1 hf1;dsimp only at hs1;obtain ⟨z0,z1,z2⟩:=kz.cells3;have f0:=kz.frozen 0;have f1:=kz.frozen 1;have f2:=kz.frozen 2;have kz2:=kz.set3 (.bool false) (.slice OA on oc) (.int .i64 0);have kd2:=kd.off3 (g:=gz) hgd (.bool false) (.slice OA on oc) (.int .i64 0);have hs2:=hs1.off3 hoff (.bool false) (.slice OA on oc) (.int .i64 0);have hb2:=zAG hb hgz (.bool false) (.slice OA on oc) (.int .i64 0);obtain ⟨t0,t1,t2⟩:=kz2.cells3;obtain ⟨s0,s1,s2⟩:=kd2.cells3;go_wp2_with fail
      generalize ((w2.setCell ⟨gz,0,none⟩ (.bool false)).setCell ⟨gz,1,none⟩ (.slice OA on oc)).setCell ⟨gz,2,none⟩ (.int .i64 0)=W3 at *;clear z0 z1 z2 f0 f1 f2 kz kd hs1 hb t0 t1 t2 s0 s1 s2;refine (zIW _ [.bool false,.slice OA on oc,.int .i64 0] _ zNR _ (HR1.out _ hb2) ⟨OA,on,oc,rfl,hs2⟩ HBd.out (by unfold Bd zNR;simp)).mono ?_;rintro e w4 ⟨rfl,hb4⟩
      replace hb:=zAt hb2 hb4 (Ya _);clear hb2 hb4;generalize zCH ⟨dn,dl,de⟩ zNR=r at *;by_cases hr:r=0
      ·subst hr
       have HC:Hid (idC i k ⟨dn,dl,de⟩=true):=by unfold Hid;rw [HE.out];rfl
       clear HE;go_wp2_with fail
       go_roundw
       case rel=>exact ⟨k+1,by omega,by go_num,fun j d' hj hd'=>by
        by_cases hjk:j<k
        ·exact HZ1.out j d' hjk hd'
        ·obtain rfl:j=k:=by omega
         rw [HD.out] at hd';injection hd' with hd'
         rw [<- hd'];exact HC.out,hb⟩
       case measure=>simp [intOf];omega
      ·have hr2:(r != 0)=true:=by simpa using hr
       have HC:Hid (idC i k ⟨dn,dl,de⟩=false):=by unfold Hid;rw [HE.out];simpa using hr
       clear HE;go_wp2_with fail
       go_ret;refine ⟨?_,hb⟩;have hrow:zIi i l=false:=by
        unfold zIi;exact zDe _ l 0 k _ HD.out (by rw [Nat.zero_add];exact HC.out)
       have:idM m=false:=by
        unfold idM;exact zDe _ m 0 i _ HM.out (by rw [Nat.zero_add];exact hrow)
       rw [this];rfl
     ·have HE:Hid (idC i k ⟨dn,dl,de⟩=decide (zCH ⟨dn,dl,de⟩ zAZ=0)):=by unfold Hid idC;rw [if_neg hik]
      have hik2:((i:Int) == (k:Int))=false:=by rw [Xi];omega
      clear hik;go_wp2_with fail
      generalize wr.alloc (.cells #[.bool dn,.slice DA dm dc,.int .i64 de] 41)=W1 at *;generalize wr.heap.size=gd at *;refine (zLt _ (HT.out.next hb)).mono ?_;rintro e w1 ⟨ZA,zn,zc,rfl,hs0,hf0,hb1⟩
      clear p0 p1 p2;replace hb:=zAt hb hb1 (Ya _);replace kd:=kd.next hb1;clear hb1 hf0;dsimp only at hs0;have kz:=Blk.new w1 41 #[.bool false,.slice ZA zn zc,.int .i64 0];have hb1:=zAE w1 (.cells #[.bool false,.slice ZA zn zc,.int .i64 0] 41);replace hb:=zAt hb hb1 (Ya _);replace kd:=kd.next hb1;replace hs0:=hs0.below hb1;clear hb1;obtain ⟨s0,s1,s2⟩:=kd.cells3;go_wp2_with fail
      generalize w1.alloc (.cells #[.bool false,.slice ZA zn zc,.int .i64 0] 41)=W2 at *;refine (zIW _ [.bool false,.slice ZA zn zc,.int .i64 0] _ zAZ _ (HR1.out _ hb) ⟨ZA,zn,zc,rfl,hs0⟩ HBd.out zKg).mono ?_;rintro e w4 ⟨rfl,hb4⟩
      replace hb:=zAt hb hb4 (Ya _);clear hb4 s0 s1 s2;generalize zCH ⟨dn,dl,de⟩ zAZ=r at *;by_cases hr:r=0
      ·subst hr
       have HC:Hid (idC i k ⟨dn,dl,de⟩=true):=by unfold Hid;rw [HE.out];rfl
       clear HE;go_wp2_with fail
       go_roundw
       case rel=>exact ⟨k+1,by omega,by go_num,fun j d' hj hd'=>by
        by_cases hjk:j<k
        ·exact HZ1.out j d' hjk hd'
        ·obtain rfl:j=k:=by omega
         rw [HD.out] at hd';injection hd' with hd'
         rw [<- hd'];exact HC.out,hb⟩
       case measure=>simp [intOf];omega
      ·have hr2:(r != 0)=true:=by simpa using hr
       have HC:Hid (idC i k ⟨dn,dl,de⟩=false):=by unfold Hid;rw [HE.out];simpa using hr
       clear HE;go_wp2_with fail
       go_ret;refine ⟨?_,hb⟩;have hrow:zIi i l=false:=by
        unfold zIi;exact zDe _ l 0 k _ HD.out (by rw [Nat.zero_add];exact HC.out)
       have:idM m=false:=by
        unfold idM;exact zDe _ m 0 i _ HM.out (by rw [Nat.zero_add];exact hrow)
       rw [this];rfl
    ·have HRow:Hid (zIi i l=true):=by
      unfold Hid zIi;refine zF9 _ l 0 (fun j d hd=>?_);rw [Nat.zero_add];refine HZ1.out j d ?_ hd;have:=(Yb.1 hd).1;have:=HL1.out;omega
     go_wp2_with fail
     go_roundw
     case rel=>exact ⟨i+1,by omega,by go_num,fun j l' hj hl'=>by
      by_cases hji:j<i
      ·exact HZ.out j l' hji hl'
      ·obtain rfl:j=i:=by omega
       rw [HM.out] at hl';injection hl' with hl'
       rw [<- hl'];exact HRow.out,hb⟩
     case measure=>simp [intOf];omega
  ·go_wp2_with fail
   go_ret;refine ⟨?_,hb⟩;have:idM m=true:=by
    unfold idM;refine zF9 _ m 0 (fun j l hl=>?_);rw [Nat.zero_add];refine HZ.out j l ?_ hl;have:=(Yb.1 hl).1;have:=HL.out;omega
   rw [this];rfl
def lkV (N:Nat) (x:Lk):Bool:=vld x.h && decide (0<zBP x.h) && zEO x.tube && decide (x.tube.length=N) && frV x.e && decide (x.e.c.length=N) && sqV x.v N
def ctV (x:Ct):Bool:=decide (8<=x.prec) && decide (x.prec<=256) && decide (1<=x.order) && decide (x.order<=15) && decide (x.links.length<=1000) &&
 decide (1<=x.start.c.length) && decide (x.start.c.length<=4) && frV x.start && idM x.start.a && !x.links.any (fun l=>!lkV x.start.c.length l)
theorem zRo (vs:List Value) (d:Dy) (w:World) (h:RD w vs d) (hd:Bd d):Calls Tryz.prog 48 #[.agg vs.toArray] w fun e w'=>e=.returned (.int .i64 (zBP d))/\Below w.heap.size w w':=by
 obtain ⟨A,n,c,rfl,hs⟩:=h;have:=hs.len;unfold Bd at hd;exact zFH d.neg A n c d.l d.e w hs (by omega)
theorem zHY (N gN:Nat) (vs:List Value) (x:Lk) (w:World) (h:RL w vs x) (hx:BdL x) (kN:Blk w gN 3 #[.int .i64 N]):Calls Tryz.prog 46 (#[.agg vs.toArray]++#[.pointer (some ⟨gN,0,none⟩)]) w (zBW (!lkV N x) w):=by
 obtain ⟨H,hn,hc,T,tn,tc,A,n,c,B,m,d,C,p,q,V,vn,vc,rfl,h1,h2,h3,h4,h5,h6⟩:=h;obtain ⟨⟨dn,dl,de⟩,tube,fe,v⟩:=x;dsimp only at h1 h2 h3 h4 h5 h6 ⊢;have e:(#[.agg ([.bool dn,.slice H hn hc,.int .i64 de,.slice T tn tc,.slice A n c,.slice B m d,.slice C p q,.slice V vn vc]:List Value).toArray]++#[.pointer (some ⟨gN,0,none⟩)]:Array Value)=#[.agg #[.bool dn,.slice H hn hc,.int .i64 de,.slice T tn tc,.slice A n c,.slice B m d,.slice C p q,.slice V vn vc],.pointer (some ⟨gN,0,none⟩)]:=by simp
 rw [e];clear e;have HV:Hid (lkV N ⟨⟨dn,dl,de⟩,tube,fe,v⟩=(vld ⟨dn,dl,de⟩ && decide (0<zBP ⟨dn,dl,de⟩) && zEO tube && decide (tn=N) && frV fe && decide (n=N) && sqV v N)):=by unfold Hid lkV;rw [h2.len,h3.len]
 have r1:RD w [.bool dn,.slice H hn hc,.int .i64 de] ⟨dn,dl,de⟩:=⟨H,hn,hc,rfl,h1⟩;have r2:RF w [.slice A n c,.slice B m d,.slice C p q] fe:=⟨A,n,c,B,m,d,C,p,q,rfl,h3,h4,h5⟩;have H1:=Zh (fun W (hb:Below w.heap.size w W)=>zEl _ _ W (zAQ w W _ _ r1 hb) hx.h);have H2:=Zh (fun W (hb:Below w.heap.size w W)=>zRo _ _ W (zAQ w W _ _ r1 hb) hx.h);have H3:=Zh (fun W (hb:Below w.heap.size w W)=>zDh T tn tc tube W (h2.next zAX hb) hx.t);have H4:=Zh (fun W (hb:Below w.heap.size w W)=>zEQ _ fe W (zBs w W _ _ r2 hb) hx.e);have H5:=Zh (fun W (hb:Below w.heap.size w W)=>zNE N V vn vc v W (h6.next zAh hb) hx.v);have m1:=h2.cap;have m2:=h2.max;have m3:=h3.cap;have m4:=h3.max;have hb0:=zAE w (.cells #[.bool dn,.slice H hn hc,.int .i64 de,.slice T tn tc,.slice A n c,.slice B m d,.slice C p q,.slice V vn vc] 86);have k0:=Blk.new w 86 #[.bool dn,.slice H hn hc,.int .i64 de,.slice T tn tc,.slice A n c,.slice B m d,.slice C p q,.slice V vn vc];replace kN:=kN.next hb0;clear h1 h2 h3 h4 h5 h6 r1 r2 hx;go_enter Tryz.func46,Tryz.ntmps46
 go_wp2_with fail
 generalize w.alloc (.cells #[.bool dn,.slice H hn hc,.int .i64 de,.slice T tn tc,.slice A n c,.slice B m d,.slice C p q,.slice V vn vc] 86)=W0 at *;refine (H1.out _ hb0).mono ?_;rintro e w1 ⟨rfl,hb1x⟩
 replace hb0:=zAA hb0 hb1x;replace k0:=k0.next hb1x;replace kN:=kN.next hb1x;clear hb1x;cases hv1:vld ⟨dn,dl,de⟩
 ·rw [hv1] at HV
  clear hv1;go_wp2_with fail
  go_ret;exact ⟨by rw [HV.out];rfl,hb0⟩
 rw [hv1] at HV;clear hv1;obtain ⟨k0q0,k0q1,k0q2,k0q3,k0q4,k0q5,k0q6,k0q7⟩:=k0.cells8;have kNq0:=kN.cells1;go_wp2_with fail
 refine (H2.out _ hb0).mono ?_;rintro e w2 ⟨rfl,hb2x⟩
 clear k0q0 k0q1 k0q2 k0q3 k0q4 k0q5 k0q6 k0q7 kNq0;replace hb0:=zAA hb0 hb2x;replace k0:=k0.next hb2x;replace kN:=kN.next hb2x;clear hb2x;generalize zBP ⟨dn,dl,de⟩=r at *;by_cases hr:0<r
 rotate_left
 ·rw [Ye hr] at HV
  have hr2:decide (r<=0)=true:=Yf (by omega);obtain ⟨k0q0,k0q1,k0q2,k0q3,k0q4,k0q5,k0q6,k0q7⟩:=k0.cells8;have kNq0:=kN.cells1;go_wp2_with fail
  go_ret;exact ⟨by rw [HV.out];rfl,hb0⟩
 rw [Yf hr] at HV;have hr2:decide (r<=0)=false:=Ye (by omega);obtain ⟨k0q0,k0q1,k0q2,k0q3,k0q4,k0q5,k0q6,k0q7⟩:=k0.cells8;have kNq0:=kN.cells1;go_wp2_with fail
 refine (H3.out _ hb0).mono ?_;rintro e w3 ⟨rfl,hb3x⟩
 clear k0q0 k0q1 k0q2 k0q3 k0q4 k0q5 k0q6 k0q7 kNq0;replace hb0:=zAA hb0 hb3x;replace k0:=k0.next hb3x;replace kN:=kN.next hb3x;clear hb3x;cases hv1:zEO tube
 ·rw [hv1] at HV
  clear hv1;go_wp2_with fail
  go_ret;exact ⟨by rw [HV.out];rfl,hb0⟩
 rw [hv1] at HV;clear hv1;by_cases ht:tn=N
 rotate_left
 ·rw [Ye ht] at HV
  have ht2:((tn:Int) != (N:Int))=true:=by rw [bne_iff_ne];omega
  obtain ⟨k0q0,k0q1,k0q2,k0q3,k0q4,k0q5,k0q6,k0q7⟩:=k0.cells8;have kNq0:=kN.cells1;go_wp2_with fail
  go_ret;exact ⟨by rw [HV.out];rfl,hb0⟩
 rw [Yf ht] at HV;have ht2:((tn:Int) != (N:Int))=false:=by rw [ht];simp
 have HT2:=Zh ht;clear ht;obtain ⟨k0q0,k0q1,k0q2,k0q3,k0q4,k0q5,k0q6,k0q7⟩:=k0.cells8;have kNq0:=kN.cells1;go_wp2_with fail
 refine (H4.out _ hb0).mono ?_;rintro e w4 ⟨rfl,hb4x⟩
 clear k0q0 k0q1 k0q2 k0q3 k0q4 k0q5 k0q6 k0q7 kNq0;replace hb0:=zAA hb0 hb4x;replace k0:=k0.next hb4x;replace kN:=kN.next hb4x;clear hb4x;cases hv1:frV fe
 ·rw [hv1] at HV
  clear hv1;go_wp2_with fail
  go_ret;exact ⟨by rw [HV.out];rfl,hb0⟩
 rw [hv1] at HV;clear hv1;by_cases hq:n=N
 rotate_left
 ·rw [Ye hq] at HV
  have hq2:((n:Int) != (N:Int))=true:=by rw [bne_iff_ne];omega
  obtain ⟨k0q0,k0q1,k0q2,k0q3,k0q4,k0q5,k0q6,k0q7⟩:=k0.cells8;have kNq0:=kN.cells1;go_wp2_with fail
  go_ret;exact ⟨by rw [HV.out];rfl,hb0⟩
 rw [Yf hq] at HV;have hq2:((n:Int) != (N:Int))=false:=by rw [hq];simp
 have HQ2:=Zh hq;clear hq;obtain ⟨k0q0,k0q1,k0q2,k0q3,k0q4,k0q5,k0q6,k0q7⟩:=k0.cells8;have kNq0:=kN.cells1;go_wp2_with fail
 refine (H5.out _ hb0).mono ?_;rintro e w5 ⟨rfl,hb5x⟩
 clear k0q0 k0q1 k0q2 k0q3 k0q4 k0q5 k0q6 k0q7 kNq0;replace hb0:=zAA hb0 hb5x;replace k0:=k0.next hb5x;replace kN:=kN.next hb5x;clear hb5x;generalize sqV v N=s at *;go_wp2_with fail
 go_ret;exact ⟨by rw [HV.out];rfl,hb0⟩
theorem zBe (vs:List Value) (x:Ct) (w:World) (h:RC w vs x) (hx:BdC x) (ht:zBx w):Calls Tryz.prog 12 #[.agg vs.toArray] w (zBW (ctV x) w):=by
 have hmf:∀ (fn:Fn) (first cap:Array Value) (w:World),(Instr.makeFunc fn first cap).run Tryz.prog w=.ok (.func fn first cap) w:=fun _ _ _ _=>rfl
 obtain ⟨A,n,c,B,m,d,C,p,q,L,ln,lc,rfl,h1,h2,h3,h4⟩:=h;obtain ⟨pr,od,st,ls⟩:=x;dsimp only at h1 h2 h3 h4 ⊢;have HV:Hid (ctV ⟨pr,od,st,ls⟩=(decide (8<=pr) && decide (pr<=256) && decide (1<=od) && decide (od<=15) && decide (ln<=1000) && decide (1<=n) && decide (n<=4) && frV st && idM st.a && !ls.any (fun l=>!lkV n l))):=by unfold Hid ctV;dsimp only;rw [h1.len,h4.len]
 have r2:RF w [.slice A n c,.slice B m d,.slice C p q] st:=⟨A,n,c,B,m,d,C,p,q,rfl,h1,h2,h3⟩;have H1:=Zh (fun W (hb:Below w.heap.size w W)=>zEQ _ st W (zBs w W _ _ r2 hb) hx.s);have H2:=Zh (fun W (hb:Below w.heap.size w W)=>zJp B m d st.a W (h2.next zAh hb) hx.s.a (ht.next hb));have H3:=Zh (fun W (hb:Below w.heap.size w W) (gN:Nat) (kN:Blk W gN 3 #[.int .i64 n])=>zEP (fun l=>!lkV n l) 46 #[.pointer (some ⟨gN,0,none⟩)] L ln lc ls W (h4.next zBt hb) (zCQ Tryz.func46 (by kernel_rfl) rfl) (fun V us l hb' hm hr=>zHY n gN us l V hr (hx.l l hm) (kN.next hb')));have m1:=h1.cap;have m2:=h1.max;have m3:=h4.cap;have m4:=h4.max;have hb0:=zAA (zAE w (.cells #[.int .i64 pr,.int .i64 od,.slice A n c,.slice B m d,.slice C p q,.slice L ln lc] 29)) (zAE (w.alloc (.cells #[.int .i64 pr,.int .i64 od,.slice A n c,.slice B m d,.slice C p q,.slice L ln lc] 29)) (.cells #[.int .i64 n] 3));have k0:=(Blk.new w 29 #[.int .i64 pr,.int .i64 od,.slice A n c,.slice B m d,.slice C p q,.slice L ln lc]).next (zAE (w.alloc (.cells #[.int .i64 pr,.int .i64 od,.slice A n c,.slice B m d,.slice C p q,.slice L ln lc] 29)) (.cells #[.int .i64 n] 3));have kN:Blk ((w.alloc (.cells #[.int .i64 pr,.int .i64 od,.slice A n c,.slice B m d,.slice C p q,.slice L ln lc] 29)).alloc (.cells #[.int .i64 n] 3)) (w.heap.size+1) 3 #[.int .i64 n]:=Blk.newAt _ _ _ (by simp);clear h1 h2 h3 h4 r2 hx ht;generalize ls.any (fun l=>!lkV n l)=rl at *;generalize idM st.a=ri at *;generalize frV st=rf at *;by_cases e1:8<=pr
 rotate_left
 ·rw [Ye e1] at HV
  clear k0 kN H1 H2 H3;go_enter Tryz.func12,Tryz.ntmps12
  go_wp2_with fail
  go_ret;exact ⟨by rw [HV.out];rfl,hb0⟩
 rw [Yf e1] at HV;by_cases e2:pr<=256
 rotate_left
 ·rw [Ye e2] at HV
  clear k0 kN H1 H2 H3;go_enter Tryz.func12,Tryz.ntmps12
  go_wp2_with fail
  go_ret;exact ⟨by rw [HV.out];rfl,hb0⟩
 rw [Yf e2] at HV;by_cases e3:1<=od
 rotate_left
 ·rw [Ye e3] at HV
  clear k0 kN H1 H2 H3;go_enter Tryz.func12,Tryz.ntmps12
  go_wp2_with fail
  go_ret;exact ⟨by rw [HV.out];rfl,hb0⟩
 rw [Yf e3] at HV;by_cases e4:od<=15
 rotate_left
 ·rw [Ye e4] at HV
  clear k0 kN H1 H2 H3;go_enter Tryz.func12,Tryz.ntmps12
  go_wp2_with fail
  go_ret;exact ⟨by rw [HV.out];rfl,hb0⟩
 rw [Yf e4] at HV;by_cases e5:ln<=1000
 rotate_left
 ·rw [Ye e5] at HV
  clear k0 kN H1 H2 H3;go_enter Tryz.func12,Tryz.ntmps12
  go_wp2_with fail
  go_ret;exact ⟨by rw [HV.out];rfl,hb0⟩
 rw [Yf e5] at HV;by_cases e6:1<=n
 rotate_left
 ·rw [Ye e6] at HV
  clear k0 kN H1 H2 H3;go_enter Tryz.func12,Tryz.ntmps12
  go_wp2_with fail
  go_ret;exact ⟨by rw [HV.out];rfl,hb0⟩
 rw [Yf e6] at HV;by_cases e7:n<=4
 rotate_left
 ·rw [Ye e7] at HV
  clear k0 kN H1 H2 H3;go_enter Tryz.func12,Tryz.ntmps12
  go_wp2_with fail
  go_ret;exact ⟨by rw [HV.out];rfl,hb0⟩
 rw [Yf e7] at HV;go_enter Tryz.func12,Tryz.ntmps12
 go_wp2_with fail
 generalize ((w.alloc (.cells #[.int .i64 pr,.int .i64 od,.slice A n c,.slice B m d,.slice C p q,.slice L ln lc] 29)).alloc (.cells #[.int .i64 n] 3))=W0 at *;refine (H1.out _ hb0).mono ?_;rintro e w1 ⟨rfl,hb1x⟩
 replace hb0:=zAA hb0 hb1x;replace k0:=k0.next hb1x;replace kN:=kN.next hb1x;clear hb1x;cases hv1:rf
 ·rw [hv1] at HV
  clear hv1;go_wp2_with fail
  go_ret;exact ⟨by rw [HV.out];rfl,hb0⟩
 rw [hv1] at HV;clear hv1;obtain ⟨k0q0,k0q1,k0q2,k0q3,k0q4,k0q5⟩:=k0.cells6;have kNq0:=kN.cells1;go_wp2_with fail
 refine (H2.out _ hb0).mono ?_;rintro e w2 ⟨rfl,hb2x⟩
 clear k0q0 k0q1 k0q2 k0q3 k0q4 k0q5 kNq0;replace hb0:=zAA hb0 hb2x;replace k0:=k0.next hb2x;replace kN:=kN.next hb2x;clear hb2x;cases hv1:ri
 ·rw [hv1] at HV
  clear hv1;go_wp2_with fail
  go_ret;exact ⟨by rw [HV.out];rfl,hb0⟩
 rw [hv1] at HV;clear hv1;obtain ⟨k0q0,k0q1,k0q2,k0q3,k0q4,k0q5⟩:=k0.cells6;have kNq0:=kN.cells1;go_wp2_with fail
 refine (H3.out _ hb0 _ kN).mono ?_;rintro e w3 ⟨rfl,hb3x⟩
 clear k0q0 k0q1 k0q2 k0q3 k0q4 k0q5 kNq0;replace hb0:=zAA hb0 hb3x;replace k0:=k0.next hb3x;replace kN:=kN.next hb3x;clear hb3x;go_wp2_with fail
 go_ret;exact ⟨by rw [HV.out];rfl,hb0⟩
theorem zQF:(Tryz.prog.info? 41).map (fun i=>(i.zero,i.size,i.bytes))=some (some (.agg #[.bool false,.slice none 0 0,.int .i64 0]),3,40):=by kernel_rfl
theorem zQG:(Tryz.prog.info? 43).map (fun i=>(i.zero,i.size,i.bytes))=some (some (.agg #[.bool false,.slice none 0 0,.int .i64 0,.bool false,.slice none 0 0,.int .i64 0,.bool false]),7,88):=by kernel_rfl
theorem zI4 {W:World}{A:Option Addr}{n c:Nat}{l:List Dy}(h:Sl 3 RD W A n c l):∀d∈l,zAV d.l:=by
 intro d hd;obtain ⟨j,hj⟩:=List.getElem?_of_mem hd;have hlt:j<n:=by have:=(Yb.1 hj).1;have:=h.len;omega
 obtain ⟨b,off,x,vs,_,_,hx,_,⟨A1,n1,c1,_,hs⟩,_⟩:=h.get hlt;rw [hj] at hx;injection hx with hx
 rw [hx];exact hs.lt
theorem zFI {W:World}{A:Option Addr}{n c:Nat}{m:List (List Dy)}(h:Sl 1 RM W A n c m):∀l∈m,∀d∈l,zAV d.l:=by
 intro l hl;obtain ⟨j,hj⟩:=List.getElem?_of_mem hl;have hlt:j<n:=by have:=(Yb.1 hj).1;have:=h.len;omega
 obtain ⟨b,off,x,vs,_,_,hx,_,⟨A1,n1,c1,_,hs⟩,_⟩:=h.get hlt;rw [hj] at hx;injection hx with hx
 rw [hx];exact zI4 hs
def ins (x y:Iv):Bool:=ivV x && ivV y && (y.all || (!x.all && decide (zCH y.lo x.lo<=0) && decide (zCH x.hi y.hi<=0)))
def ivE (x y:Iv):Bool:=ins x y && ins y x
theorem zHy (vs us:List Value) (x y:Iv) (w:World) (h:RI w vs x) (h':RI w us y) (hx:BdI x) (hy:BdI y):Calls Tryz.prog 66 #[.agg vs.toArray,.agg us.toArray] w (zBW (ins x y) w):=by
 obtain ⟨xA,xs,xc,xB,xm,xd,rfl,hx1,hx2⟩:=h;obtain ⟨⟨xln,xll,xle⟩,⟨xun,xul,xue⟩,xa⟩:=x;dsimp only at hx1 hx2 ⊢;have rx:RI w [.bool xln,.slice xA xs xc,.int .i64 xle,.bool xun,.slice xB xm xd,.int .i64 xue,.bool xa] ⟨⟨xln,xll,xle⟩,⟨xun,xul,xue⟩,xa⟩:=⟨xA,xs,xc,xB,xm,xd,rfl,hx1,hx2⟩;have rx1:RD w [.bool xln,.slice xA xs xc,.int .i64 xle] ⟨xln,xll,xle⟩:=⟨xA,xs,xc,rfl,hx1⟩;have rx2:RD w [.bool xun,.slice xB xm xd,.int .i64 xue] ⟨xun,xul,xue⟩:=⟨xB,xm,xd,rfl,hx2⟩;have Rx:=Zh (fun W hb=>zAX w W _ _ rx hb);have Rx1:=Zh (fun W hb=>zAQ w W _ _ rx1 hb);have Rx2:=Zh (fun W hb=>zAQ w W _ _ rx2 hb);clear hx1 hx2 rx rx1 rx2;obtain ⟨yA,ys,yc,yB,ym,yd,rfl,hy1,hy2⟩:=h';obtain ⟨⟨yln,yll,yle⟩,⟨yun,yul,yue⟩,ya⟩:=y;dsimp only at hy1 hy2 ⊢;have ry:RI w [.bool yln,.slice yA ys yc,.int .i64 yle,.bool yun,.slice yB ym yd,.int .i64 yue,.bool ya] ⟨⟨yln,yll,yle⟩,⟨yun,yul,yue⟩,ya⟩:=⟨yA,ys,yc,yB,ym,yd,rfl,hy1,hy2⟩;have ry1:RD w [.bool yln,.slice yA ys yc,.int .i64 yle] ⟨yln,yll,yle⟩:=⟨yA,ys,yc,rfl,hy1⟩;have ry2:RD w [.bool yun,.slice yB ym yd,.int .i64 yue] ⟨yun,yul,yue⟩:=⟨yB,ym,yd,rfl,hy2⟩;have Ry:=Zh (fun W hb=>zAX w W _ _ ry hb);have Ry1:=Zh (fun W hb=>zAQ w W _ _ ry1 hb);have Ry2:=Zh (fun W hb=>zAQ w W _ _ ry2 hb);clear hy1 hy2 ry ry1 ry2;have HV:Hid (ins ⟨⟨xln,xll,xle⟩,⟨xun,xul,xue⟩,xa⟩ ⟨⟨yln,yll,yle⟩,⟨yun,yul,yue⟩,ya⟩=(ivV ⟨⟨xln,xll,xle⟩,⟨xun,xul,xue⟩,xa⟩ && ivV ⟨⟨yln,yll,yle⟩,⟨yun,yul,yue⟩,ya⟩ && (ya || (!xa && decide (zCH ⟨yln,yll,yle⟩ ⟨xln,xll,xle⟩<=0) && decide (zCH ⟨xun,xul,xue⟩ ⟨yun,yul,yue⟩<=0))))):=rfl;have HX:=Zh hx;have HY:=Zh hy;clear hx hy;have hb0:=zAA (zAE w (.cells #[.bool xln,.slice xA xs xc,.int .i64 xle,.bool xun,.slice xB xm xd,.int .i64 xue,.bool xa] 43)) (zAE (w.alloc (.cells #[.bool xln,.slice xA xs xc,.int .i64 xle,.bool xun,.slice xB xm xd,.int .i64 xue,.bool xa] 43)) (.cells #[.bool yln,.slice yA ys yc,.int .i64 yle,.bool yun,.slice yB ym yd,.int .i64 yue,.bool ya] 43));have ka:=(Blk.new w 43 #[.bool xln,.slice xA xs xc,.int .i64 xle,.bool xun,.slice xB xm xd,.int .i64 xue,.bool xa]).next (zAE (w.alloc (.cells #[.bool xln,.slice xA xs xc,.int .i64 xle,.bool xun,.slice xB xm xd,.int .i64 xue,.bool xa] 43)) (.cells #[.bool yln,.slice yA ys yc,.int .i64 yle,.bool yun,.slice yB ym yd,.int .i64 yue,.bool ya] 43));have kb:Blk ((w.alloc (.cells #[.bool xln,.slice xA xs xc,.int .i64 xle,.bool xun,.slice xB xm xd,.int .i64 xue,.bool xa] 43)).alloc (.cells #[.bool yln,.slice yA ys yc,.int .i64 yle,.bool yun,.slice yB ym yd,.int .i64 yue,.bool ya] 43)) (w.heap.size+1) 43 #[.bool yln,.slice yA ys yc,.int .i64 yle,.bool yun,.slice yB ym yd,.int .i64 yue,.bool ya]:=Blk.newAt _ _ _ (by simp);go_enter Tryz.func66,Tryz.ntmps66
 go_wp2_with fail
 generalize ((w.alloc (.cells #[.bool xln,.slice xA xs xc,.int .i64 xle,.bool xun,.slice xB xm xd,.int .i64 xue,.bool xa] 43)).alloc (.cells #[.bool yln,.slice yA ys yc,.int .i64 yle,.bool yun,.slice yB ym yd,.int .i64 yue,.bool ya] 43))=W0 at *;refine (zD9 _ _ _ (Rx.out _ hb0) HX.out).mono ?_;rintro e w1 ⟨rfl,hb1x⟩
 replace hb0:=zAA hb0 hb1x;replace ka:=ka.next hb1x;replace kb:=kb.next hb1x;clear hb1x;cases hv1:ivV ⟨⟨xln,xll,xle⟩,⟨xun,xul,xue⟩,xa⟩
 ·rw [hv1] at HV
  clear hv1;go_wp2_with fail
  go_ret;exact ⟨by rw [HV.out];rfl,hb0⟩
 rw [hv1] at HV;clear hv1;obtain ⟨kaq0,kaq1,kaq2,kaq3,kaq4,kaq5,kaq6⟩:=ka.cells7;obtain ⟨kbq0,kbq1,kbq2,kbq3,kbq4,kbq5,kbq6⟩:=kb.cells7;go_wp2_with fail
 refine (zD9 _ _ _ (Ry.out _ hb0) HY.out).mono ?_;rintro e w2 ⟨rfl,hb2x⟩
 clear kaq0 kaq1 kaq2 kaq3 kaq4 kaq5 kaq6 kbq0 kbq1 kbq2 kbq3 kbq4 kbq5 kbq6;replace hb0:=zAA hb0 hb2x;replace ka:=ka.next hb2x;replace kb:=kb.next hb2x;clear hb2x;cases hv1:ivV ⟨⟨yln,yll,yle⟩,⟨yun,yul,yue⟩,ya⟩
 ·rw [hv1] at HV
  clear hv1;go_wp2_with fail
  go_ret;exact ⟨by rw [HV.out];rfl,hb0⟩
 rw [hv1] at HV;clear hv1;cases ya
 ·cases xa
  ·obtain ⟨kaq0,kaq1,kaq2,kaq3,kaq4,kaq5,kaq6⟩:=ka.cells7
   obtain ⟨kbq0,kbq1,kbq2,kbq3,kbq4,kbq5,kbq6⟩:=kb.cells7;go_wp2_with fail
   refine (zIW _ _ _ _ _ (Ry1.out _ hb0) (Rx1.out _ hb0) HY.out.1 HX.out.1).mono ?_;rintro e w3 ⟨rfl,hb3x⟩
   clear kaq0 kaq1 kaq2 kaq3 kaq4 kaq5 kaq6 kbq0 kbq1 kbq2 kbq3 kbq4 kbq5 kbq6;replace hb0:=zAA hb0 hb3x;replace ka:=ka.next hb3x;replace kb:=kb.next hb3x;clear hb3x;generalize zCH ⟨yln,yll,yle⟩ ⟨xln,xll,xle⟩=r1 at *;cases hv1:decide (r1<=0)
   ·rw [hv1] at HV
    go_wp2_with fail
    go_ret;exact ⟨by rw [HV.out];rfl,hb0⟩
   rw [hv1] at HV;obtain ⟨kaq0,kaq1,kaq2,kaq3,kaq4,kaq5,kaq6⟩:=ka.cells7;obtain ⟨kbq0,kbq1,kbq2,kbq3,kbq4,kbq5,kbq6⟩:=kb.cells7;go_wp2_with fail
   refine (zIW _ _ _ _ _ (Rx2.out _ hb0) (Ry2.out _ hb0) HX.out.2 HY.out.2).mono ?_;rintro e w4 ⟨rfl,hb4x⟩
   clear kaq0 kaq1 kaq2 kaq3 kaq4 kaq5 kaq6 kbq0 kbq1 kbq2 kbq3 kbq4 kbq5 kbq6;replace hb0:=zAA hb0 hb4x;replace ka:=ka.next hb4x;replace kb:=kb.next hb4x;clear hb4x;generalize zCH ⟨xun,xul,xue⟩ ⟨yun,yul,yue⟩=r2 at *;go_wp2_with fail
   go_ret;exact ⟨by rw [HV.out];rfl,hb0⟩
  ·obtain ⟨kaq0,kaq1,kaq2,kaq3,kaq4,kaq5,kaq6⟩:=ka.cells7
   obtain ⟨kbq0,kbq1,kbq2,kbq3,kbq4,kbq5,kbq6⟩:=kb.cells7;go_wp2_with fail
   go_ret;exact ⟨by rw [HV.out];rfl,hb0⟩
 ·obtain ⟨kaq0,kaq1,kaq2,kaq3,kaq4,kaq5,kaq6⟩:=ka.cells7
  obtain ⟨kbq0,kbq1,kbq2,kbq3,kbq4,kbq5,kbq6⟩:=kb.cells7;go_wp2_with fail
  go_ret;exact ⟨by rw [HV.out];rfl,hb0⟩
theorem zK7 (vs us:List Value) (x y:Iv) (w:World) (h:RI w vs x) (h':RI w us y) (hx:BdI x) (hy:BdI y):Calls Tryz.prog 22 (#[.agg vs.toArray,.agg us.toArray]++#[]) w (zBW (ivE x y) w):=by
 rw [Array.append_empty];obtain ⟨xA,xs,xc,xB,xm,xd,rfl,hx1,hx2⟩:=h;obtain ⟨⟨xln,xll,xle⟩,⟨xun,xul,xue⟩,xa⟩:=x;dsimp only at hx1 hx2 ⊢;have rx:RI w [.bool xln,.slice xA xs xc,.int .i64 xle,.bool xun,.slice xB xm xd,.int .i64 xue,.bool xa] ⟨⟨xln,xll,xle⟩,⟨xun,xul,xue⟩,xa⟩:=⟨xA,xs,xc,xB,xm,xd,rfl,hx1,hx2⟩;have rx1:RD w [.bool xln,.slice xA xs xc,.int .i64 xle] ⟨xln,xll,xle⟩:=⟨xA,xs,xc,rfl,hx1⟩;have rx2:RD w [.bool xun,.slice xB xm xd,.int .i64 xue] ⟨xun,xul,xue⟩:=⟨xB,xm,xd,rfl,hx2⟩;have Rx:=Zh (fun W hb=>zAX w W _ _ rx hb);have Rx1:=Zh (fun W hb=>zAQ w W _ _ rx1 hb);have Rx2:=Zh (fun W hb=>zAQ w W _ _ rx2 hb);clear hx1 hx2 rx rx1 rx2;obtain ⟨yA,ys,yc,yB,ym,yd,rfl,hy1,hy2⟩:=h';obtain ⟨⟨yln,yll,yle⟩,⟨yun,yul,yue⟩,ya⟩:=y;dsimp only at hy1 hy2 ⊢;have ry:RI w [.bool yln,.slice yA ys yc,.int .i64 yle,.bool yun,.slice yB ym yd,.int .i64 yue,.bool ya] ⟨⟨yln,yll,yle⟩,⟨yun,yul,yue⟩,ya⟩:=⟨yA,ys,yc,yB,ym,yd,rfl,hy1,hy2⟩;have ry1:RD w [.bool yln,.slice yA ys yc,.int .i64 yle] ⟨yln,yll,yle⟩:=⟨yA,ys,yc,rfl,hy1⟩;have ry2:RD w [.bool yun,.slice yB ym yd,.int .i64 yue] ⟨yun,yul,yue⟩:=⟨yB,ym,yd,rfl,hy2⟩;have Ry:=Zh (fun W hb=>zAX w W _ _ ry hb);have Ry1:=Zh (fun W hb=>zAQ w W _ _ ry1 hb);have Ry2:=Zh (fun W hb=>zAQ w W _ _ ry2 hb);clear hy1 hy2 ry ry1 ry2;have HV:Hid (ivE ⟨⟨xln,xll,xle⟩,⟨xun,xul,xue⟩,xa⟩ ⟨⟨yln,yll,yle⟩,⟨yun,yul,yue⟩,ya⟩=(ins ⟨⟨xln,xll,xle⟩,⟨xun,xul,xue⟩,xa⟩ ⟨⟨yln,yll,yle⟩,⟨yun,yul,yue⟩,ya⟩ && ins ⟨⟨yln,yll,yle⟩,⟨yun,yul,yue⟩,ya⟩ ⟨⟨xln,xll,xle⟩,⟨xun,xul,xue⟩,xa⟩)):=rfl;have HX:=Zh hx;have HY:=Zh hy;clear hx hy;have hb0:=zAA (zAE w (.cells #[.bool xln,.slice xA xs xc,.int .i64 xle,.bool xun,.slice xB xm xd,.int .i64 xue,.bool xa] 43)) (zAE (w.alloc (.cells #[.bool xln,.slice xA xs xc,.int .i64 xle,.bool xun,.slice xB xm xd,.int .i64 xue,.bool xa] 43)) (.cells #[.bool yln,.slice yA ys yc,.int .i64 yle,.bool yun,.slice yB ym yd,.int .i64 yue,.bool ya] 43));have ka:=(Blk.new w 43 #[.bool xln,.slice xA xs xc,.int .i64 xle,.bool xun,.slice xB xm xd,.int .i64 xue,.bool xa]).next (zAE (w.alloc (.cells #[.bool xln,.slice xA xs xc,.int .i64 xle,.bool xun,.slice xB xm xd,.int .i64 xue,.bool xa] 43)) (.cells #[.bool yln,.slice yA ys yc,.int .i64 yle,.bool yun,.slice yB ym yd,.int .i64 yue,.bool ya] 43));have kb:Blk ((w.alloc (.cells #[.bool xln,.slice xA xs xc,.int .i64 xle,.bool xun,.slice xB xm xd,.int .i64 xue,.bool xa] 43)).alloc (.cells #[.bool yln,.slice yA ys yc,.int .i64 yle,.bool yun,.slice yB ym yd,.int .i64 yue,.bool ya] 43)) (w.heap.size+1) 43 #[.bool yln,.slice yA ys yc,.int .i64 yle,.bool yun,.slice yB ym yd,.int .i64 yue,.bool ya]:=Blk.newAt _ _ _ (by simp);go_enter Tryz.func22,Tryz.ntmps22
 go_wp2_with fail
 generalize ((w.alloc (.cells #[.bool xln,.slice xA xs xc,.int .i64 xle,.bool xun,.slice xB xm xd,.int .i64 xue,.bool xa] 43)).alloc (.cells #[.bool yln,.slice yA ys yc,.int .i64 yle,.bool yun,.slice yB ym yd,.int .i64 yue,.bool ya] 43))=W0 at *;refine (zHy _ _ _ _ _ (Rx.out _ hb0) (Ry.out _ hb0) HX.out HY.out).mono ?_;rintro e w1 ⟨rfl,hb1x⟩
 replace hb0:=zAA hb0 hb1x;replace ka:=ka.next hb1x;replace kb:=kb.next hb1x;clear hb1x;cases hv1:ins ⟨⟨xln,xll,xle⟩,⟨xun,xul,xue⟩,xa⟩ ⟨⟨yln,yll,yle⟩,⟨yun,yul,yue⟩,ya⟩
 ·rw [hv1] at HV
  clear hv1;go_wp2_with fail
  go_ret;exact ⟨by rw [HV.out];rfl,hb0⟩
 rw [hv1] at HV;clear hv1;obtain ⟨kaq0,kaq1,kaq2,kaq3,kaq4,kaq5,kaq6⟩:=ka.cells7;obtain ⟨kbq0,kbq1,kbq2,kbq3,kbq4,kbq5,kbq6⟩:=kb.cells7;go_wp2_with fail
 refine (zHy _ _ _ _ _ (Ry.out _ hb0) (Rx.out _ hb0) HY.out HX.out).mono ?_;rintro e w2 ⟨rfl,hb2x⟩
 clear kaq0 kaq1 kaq2 kaq3 kaq4 kaq5 kaq6 kbq0 kbq1 kbq2 kbq3 kbq4 kbq5 kbq6;replace hb0:=zAA hb0 hb2x;replace ka:=ka.next hb2x;replace kb:=kb.next hb2x;clear hb2x;generalize ins ⟨⟨yln,yll,yle⟩,⟨yun,yul,yue⟩,ya⟩ ⟨⟨xln,xll,xle⟩,⟨xun,xul,xue⟩,xa⟩=r at *;go_wp2_with fail
 go_ret;exact ⟨by rw [HV.out];rfl,hb0⟩
theorem zFw (A B:Option Addr) (n c m d:Nat) (l l':List Iv) (w:World) (h:Sl 7 RI w A n c l) (h':Sl 7 RI w B m d l') (hx:∀x∈l,BdI x) (hy:∀x∈l',BdI x):Calls Tryz.prog 21 #[.slice A n c,.slice B m d,.func (.func 22) #[] #[]] w (zBW (eqF ivE l l') w):=
 zKt ivE 22 #[] A B n c m d l l' w h h' (zCQ Tryz.func22 (by kernel_rfl) rfl) (fun W vs us x y _ hm hm' hr hr'=>zK7 vs us x y W hr hr' (hx x hm) (hy y hm'))
theorem zMg (A B:Option Addr) (n c m d:Nat) (l l':List Iv) (w:World) (h:Sl 7 RI w A n c l) (h':Sl 7 RI w B m d l') (hx:∀x∈l,BdI x) (hy:∀x∈l',BdI x):Calls Tryz.prog 125 #[.slice A n c,.slice B m d] w (zBW (zEO l && zEO l' && decide (l.length=l'.length)) w):=by
 have HV:Hid ((zEO l && zEO l' && decide (l.length=l'.length))=(zEO l && zEO l' && decide (n=m))):=by unfold Hid;rw [h.len,h'.len]
 have H1:=Zh (fun W hb=>zDh A n c l W (h.next zAX hb) hx);have H2:=Zh (fun W hb=>zDh B m d l' W (h'.next zAX hb) hy);have m1:=h.cap;have m2:=h.max;have m3:=h'.cap;have m4:=h'.max;clear h h' hx hy;have hb0:=Yp w.heap.size w;obtain ⟨b1,h1⟩:∃b1,zEO l=b1:=⟨_,rfl⟩;obtain ⟨b2,h2⟩:∃b2,zEO l' = b2:=⟨_,rfl⟩;have HV2:Hid ((zEO l && zEO l' && decide (l.length=l'.length))=(b1 && b2 && decide (n=m))):=by unfold Hid;rw [HV.out,h1,h2]
 rw [h1] at H1;rw [h2] at H2;clear HV h1 h2;go_enter Tryz.func125,Tryz.ntmps125
 go_wp2_with fail
 refine (H1.out _ hb0).mono ?_;rintro e w1 ⟨rfl,hb1x⟩
 replace hb0:=zAA hb0 hb1x;clear hb1x;cases hv1:b1
 ·rw [hv1] at HV2
  clear hv1;go_wp2_with fail
  go_ret;exact ⟨by rw [HV2.out];rfl,hb0⟩
 rw [hv1] at HV2;clear hv1;go_wp2_with fail
 refine (H2.out _ hb0).mono ?_;rintro e w2 ⟨rfl,hb2x⟩
 replace hb0:=zAA hb0 hb2x;clear hb2x;cases hv1:b2
 ·rw [hv1] at HV2
  clear hv1;go_wp2_with fail
  go_ret;exact ⟨by rw [HV2.out];rfl,hb0⟩
 rw [hv1] at HV2;clear hv1;by_cases hn:n=m
 ·have hn2:((n:Int) == (m:Int))=true:=by rw [hn];simp
  rw [Yf hn] at HV2;clear hn;go_wp2_with fail
  go_ret;exact ⟨by rw [HV2.out];rfl,hb0⟩
 ·have hn2:((n:Int) == (m:Int))=false:=by rw [Xi];omega
  rw [Ye hn] at HV2;clear hn;go_wp2_with fail
  go_ret;exact ⟨by rw [HV2.out];rfl,hb0⟩
def LmI (x:Iv):Prop:=zAV x.lo.l/\zAV x.hi.l
structure LmF (f:Fr):Prop where
 c:∀d∈f.c,zAV d.l
 a:∀l∈f.a,∀d∈l,zAV d.l
 r:∀x∈f.r,LmI x
structure LmL (x:Lk):Prop where
 h:zAV x.h.l
 t:∀y∈x.tube,LmI y
 e:LmF x.e
 v:∀l∈x.v,∀d∈l,zAV d.l
structure LmC (x:Ct):Prop where
 s:LmF x.start
 l:∀y∈x.links,LmL y
theorem zHH {W:World}{A:Option Addr}{n c:Nat}{l:List Iv}(h:Sl 7 RI W A n c l):∀d∈l,LmI d:=by
 intro d hd;obtain ⟨j,hj⟩:=List.getElem?_of_mem hd;have hlt:j<n:=by have:=(Yb.1 hj).1;have:=h.len;omega
 obtain ⟨b,off,x,vs,_,_,hx,_,⟨A1,n1,c1,A2,n2,c2,_,hs,hs'⟩,_⟩:=h.get hlt;rw [hj] at hx;injection hx with hx
 rw [hx];exact ⟨hs.lt,hs'.lt⟩
theorem zQo {W:World}{vs:List Value}{x:Lk}(h:RL W vs x):LmL x:=by
 obtain ⟨H,hn,hc,T,tn,tc,A,n,c,B,m,d,C,p,q,V,vn,vc,_,h1,h2,h3,h4,h5,h6⟩:=h;exact ⟨h1.lt,zHH h2,⟨zI4 h3,zFI h4,zHH h5⟩,zFI h6⟩
theorem zIz {W:World}{vs:List Value}{x:Ct}(h:RC W vs x):LmC x:=by
 obtain ⟨A,n,c,B,m,d,C,p,q,L,ln,lc,_,h1,h2,h3,h4⟩:=h;refine ⟨⟨zI4 h1,zFI h2,zHH h3⟩,fun y hy=>?_⟩;obtain ⟨j,hj⟩:=List.getElem?_of_mem hy;have hlt:j<ln:=by have:=(Yb.1 hj).1;have:=h4.len;omega
 obtain ⟨b,off,x,vs,_,_,hx,_,hR,_⟩:=h4.get hlt;rw [hj] at hx;injection hx with hx
 rw [hx];exact zQo hR
theorem zGD {α:Type}{p:α->α->Bool}:∀ (xs:List α),(∀x∈xs,p x x=true)->eqF p xs xs=true:=by
 intro xs
 induction xs with
 | nil=>intro _;rfl
 | cons x xs ih=>intro h;simp only [eqF];rw [h x (by simp),ih (fun a ha=>h a (by simp [ha]))];rfl
theorem zDf {α:Type}{p:α->Bool}{l:List α}(h:(!l.any p)=true):∀x∈l,p x=false:=by
 rw [Bool.not_eq_true',List.any_eq_false] at h;intro x hx
 simpa using h x hx
theorem zB9 {l:List Iv}(h:zEO l=true):∀x∈l,ivV x=true/\x.all=false:=by
 unfold zEO at h;simp only [Yi] at h;intro x hx;have:=zDf h.2 x hx;rw [Xd] at this;exact ⟨by simpa using this.2,this.1⟩
theorem zBM {x:Ct}(h:ctV x=true):frV x.start=true/\idM x.start.a=true/\(∀l∈x.links,lkV x.start.c.length l=true)/\8<=x.prec/\x.prec<=256/\1<=x.order/\x.order<=15/\1<=x.start.c.length/\x.start.c.length<=4/\x.links.length<=1000:=by
 unfold ctV at h;simp only [Yi,Xb] at h;obtain ⟨⟨⟨⟨⟨⟨⟨⟨⟨v1,v2⟩,v3⟩,v4⟩,v5⟩,v6⟩,v7⟩,v8⟩,v9⟩,v10⟩:=h;exact ⟨v8,v9,fun l hl=>by simpa using zDf v10 l hl,v1,v2,v3,v4,v6,v7,v5⟩
structure KR (g:Nat) (w w':World):Prop where
 os:w'.os=w.os
 tape:w'.tape=w.tape
 output:w'.output=w.output
 size:w.heap.size<=w'.heap.size
 block:∀b,b<w.heap.size->b≠g->w'.heap[b]? = w.heap[b]?
section
variable {g:Nat}{w w' w'':World}
theorem KR.trans (h:KR g w w') (k:KR g w' w''):KR g w w'':=⟨k.os.trans h.os,k.tape.trans h.tape,k.output.trans h.output,Yq h.size k.size,fun b hb hg=>(k.block b (Yh hb h.size) hg).trans (h.block b hb hg)⟩
theorem KR.below {B:Nat}(h:KR g w w') (hB:B<=w.heap.size) (hg:B<=g):Below B w w':=⟨h.os,h.tape,h.output,h.size,fun b hb=>h.block b (by omega) (by omega)⟩
theorem KR.set (i:Nat) (v:Value):KR g w (w.setCell ⟨g,i,none⟩ v):=⟨rfl,rfl,rfl,by simp [World.setCell],fun b _ hg=>Yl _ _ _ _ hg⟩
theorem KR.blk {b:Nat}{t:TypeId}{cs:Array Value}(h:KR g w w') (hk:Blk w b t cs) (hg:b≠g):Blk w' b t cs:=(h.block b hk.lt hg).trans hk
end
theorem zED {e:TypeId}{k:Nat}{w:World}{base:Nat}{v:Value}{fs:List (List Value)}(h:zKf e k w base v fs):∃A n c,v=.slice A n c:=by
 obtain ⟨A,c,h,_,_⟩:=h.form;exact ⟨A,_,c,h⟩
def hgD (d:Dy):Bool:=decide (12<d.l.length)
def hgN (l:List Dy):Bool:=decide (8<l.length) || l.any hgD
def hgI (x:Iv):Bool:=hgD x.lo || hgD x.hi
def hgB (l:List Iv):Bool:=decide (8<l.length) || l.any hgI
def hgM (m:List (List Dy)):Bool:=decide (8<m.length) || m.any hgN
def hgF (f:Fr):Bool:=hgN f.c || hgM f.a || hgB f.r
def hgL (x:Lk):Bool:=hgD x.h || hgB x.tube || hgF x.e || hgM x.v
def hgC (x:Ct):Bool:=decide (20<x.links.length) || hgF x.start || x.links.any hgL
structure zJL (W:World) (g4 g5 g6 g7:Nat):Prop where
 k4:Blk W g4 90 #[.func (.func 32) #[] #[]]
 k5:Blk W g5 93 #[.func (.func 35) #[] #[]]
 k6:Blk W g6 95 #[.func (.func 38) #[] #[.pointer (some ⟨g4,0,none⟩)]]
 k7:Blk W g7 96 #[.func (.func 40) #[] #[.pointer (some ⟨g4,0,none⟩),.pointer (some ⟨g6,0,none⟩),.pointer (some ⟨g5,0,none⟩)]]
theorem zJL.next {W W':World}{g4 g5 g6 g7:Nat}(h:zJL W g4 g5 g6 g7) (hb:Below W.heap.size W W'):zJL W' g4 g5 g6 g7:=⟨h.k4.next hb,h.k5.next hb,h.k6.next hb,h.k7.next hb⟩
theorem zMs (vs:List Value) (d:Dy) (w:World) (h:RD w vs d):Calls Tryz.prog 34 #[.agg vs.toArray] w (zBW (hgD d) w):=by
 obtain ⟨A,n,c,rfl,hs⟩:=h;have HV:Hid (hgD d=decide (12<n)):=by unfold Hid hgD;rw [hs.len]
 have m1:=hs.cap;have m2:=hs.max;clear hs;by_cases h:12<n
 ·rw [Yf h] at HV
  go_enter Tryz.func34,Tryz.ntmps34
  go_wp2
  go_ret;exact ⟨by rw [HV.out];simp;omega,zAE _ _⟩
 ·rw [Ye h] at HV
  go_enter Tryz.func34,Tryz.ntmps34
  go_wp2
  go_ret;exact ⟨by rw [HV.out];simp;omega,zAE _ _⟩
theorem zMt (vs:List Value) (x:Iv) (w:World) (h:RI w vs x):Calls Tryz.prog 37 #[.agg vs.toArray] w (zBW (hgI x) w):=by
 obtain ⟨xA,xs,xc,xB,xm,xd,rfl,hx1,hx2⟩:=h;have HV:Hid (hgI x=(decide (12<xs) || decide (12<xm))):=by unfold Hid hgI hgD;rw [hx1.len,hx2.len]
 have m1:=hx1.cap;have m2:=hx1.max;have m3:=hx2.cap;have m4:=hx2.max;clear hx1 hx2;by_cases h:12<xs
 ·rw [Yf h] at HV
  go_enter Tryz.func37,Tryz.ntmps37
  go_wp2
  go_ret;exact ⟨by rw [HV.out];first | rfl | simp;omega,zAE _ _⟩
 rw [Ye h] at HV;have hd:decide (12<(xs:Int))=false:=Ye (by omega);by_cases h':12<xm
 ·rw [Yf h'] at HV
  go_enter Tryz.func37,Tryz.ntmps37
  go_wp2
  go_ret;exact ⟨by rw [HV.out];first | rfl | simp;omega,zAE _ _⟩
 ·rw [Ye h'] at HV
  go_enter Tryz.func37,Tryz.ntmps37
  go_wp2
  go_ret;exact ⟨by rw [HV.out];first | rfl | simp;omega,zAE _ _⟩
theorem zJl (A:Option Addr) (n c:Nat) (l:List Dy) (w:World) (h:Sl 3 RD w A n c l):Calls Tryz.prog 32 #[.slice A n c] w (zBW (hgN l) w):=by
 have hmf:∀ (fn:Fn) (first cap:Array Value) (w:World),(Instr.makeFunc fn first cap).run Tryz.prog w=.ok (.func fn first cap) w:=fun _ _ _ _=>rfl
 obtain ⟨r,hr⟩:∃r,l.any hgD=r:=⟨_,rfl⟩;have HV:Hid (hgN l=(decide (8<n) || r)):=by unfold Hid hgN;rw [h.len,hr]
 have HC:=Zh (zCA hgD 34 #[] A n c l w h (zCQ Tryz.func34 (by kernel_rfl) rfl) (fun W us d _ _ hr=>by rw [Array.append_empty];exact zMs us d W hr));rw [hr] at HC;have m1:=h.cap;have m2:=h.max;clear h hr;by_cases hn:8<n
 ·rw [Yf hn] at HV
  go_enter Tryz.func32,Tryz.ntmps32
  go_wp2_with fail
  go_ret;exact ⟨by rw [HV.out];first | rfl | simp;omega,Yp _ _⟩
 ·rw [Ye hn] at HV
  have hd:decide (8<(n:Int))=false:=Ye (by omega);go_enter Tryz.func32,Tryz.ntmps32
  go_wp2_with fail
  refine HC.out.mono ?_;rintro e w1 ⟨rfl,hb0⟩
  go_wp2_with fail
  go_ret;exact ⟨by rw [HV.out];first | rfl | simp,hb0⟩
theorem zJm (A:Option Addr) (n c:Nat) (l:List Iv) (w:World) (h:Sl 7 RI w A n c l):Calls Tryz.prog 35 #[.slice A n c] w (zBW (hgB l) w):=by
 have hmf:∀ (fn:Fn) (first cap:Array Value) (w:World),(Instr.makeFunc fn first cap).run Tryz.prog w=.ok (.func fn first cap) w:=fun _ _ _ _=>rfl
 obtain ⟨r,hr⟩:∃r,l.any hgI=r:=⟨_,rfl⟩;have HV:Hid (hgB l=(decide (8<n) || r)):=by unfold Hid hgB;rw [h.len,hr]
 have HC:=Zh (zCv hgI 37 #[] A n c l w h (zCQ Tryz.func37 (by kernel_rfl) rfl) (fun W us d _ _ hr=>by rw [Array.append_empty];exact zMt us d W hr));rw [hr] at HC;have m1:=h.cap;have m2:=h.max;clear h hr;by_cases hn:8<n
 ·rw [Yf hn] at HV
  go_enter Tryz.func35,Tryz.ntmps35
  go_wp2_with fail
  go_ret;exact ⟨by rw [HV.out];first | rfl | simp;omega,Yp _ _⟩
 ·rw [Ye hn] at HV
  have hd:decide (8<(n:Int))=false:=Ye (by omega);go_enter Tryz.func35,Tryz.ntmps35
  go_wp2_with fail
  refine HC.out.mono ?_;rintro e w1 ⟨rfl,hb0⟩
  go_wp2_with fail
  go_ret;exact ⟨by rw [HV.out];first | rfl | simp,hb0⟩
theorem zSQ (vs:List Value) (l:List Dy) (w:World) (h:RM w vs l):Calls Tryz.prog 32 (#[(vs[0]?).getD undef]++#[]) w (zBW (hgN l) w):=by
 obtain ⟨A,n,c,rfl,hs⟩:=h;rw [Array.append_empty];exact zJl A n c l w hs
theorem zJn (g4:Nat) (A:Option Addr) (n c:Nat) (l:List (List Dy)) (w:World) (h:Sl 1 RM w A n c l) (k4:Blk w g4 90 #[.func (.func 32) #[] #[]]):Calls Tryz.prog 38 #[.slice A n c,.pointer (some ⟨g4,0,none⟩)] w (zBW (hgM l) w):=by
 have hmf:∀ (fn:Fn) (first cap:Array Value) (w:World),(Instr.makeFunc fn first cap).run Tryz.prog w=.ok (.func fn first cap) w:=fun _ _ _ _=>rfl
 obtain ⟨r,hr⟩:∃r,l.any hgN=r:=⟨_,rfl⟩;have HV:Hid (hgM l=(decide (8<n) || r)):=by unfold Hid hgM;rw [h.len,hr]
 have HC:=Zh (zCw hgN 32 #[] A n c l w h (zCQ Tryz.func32 (by kernel_rfl) rfl) (fun W us d hb _ hr=>zSQ us d W hr));rw [hr] at HC;have m1:=h.cap;have m2:=h.max;have q4:=k4.cells1;clear h hr;by_cases hn:8<n
 ·rw [Yf hn] at HV
  go_enter Tryz.func38,Tryz.ntmps38
  go_wp2_with fail
  go_ret;exact ⟨by rw [HV.out];first | rfl | simp;omega,Yp _ _⟩
 ·rw [Ye hn] at HV
  have hd:decide (8<(n:Int))=false:=Ye (by omega);go_enter Tryz.func38,Tryz.ntmps38
  go_wp2_with fail
  refine HC.out.mono ?_;rintro e w1 ⟨rfl,hb0⟩
  go_wp2_with fail
  go_ret;exact ⟨by rw [HV.out];first | rfl | simp,hb0⟩
theorem zJo (g4 g5 g6 g7:Nat) (vs:List Value) (x:Fr) (w:World) (h:RF w vs x) (E:zJL w g4 g5 g6 g7):Calls Tryz.prog 40 #[.agg vs.toArray,.pointer (some ⟨g4,0,none⟩),.pointer (some ⟨g6,0,none⟩),.pointer (some ⟨g5,0,none⟩)] w (zBW (hgF x) w):=by
 obtain ⟨xA,xn,xc,xB,xm,xd,xC,xp,xq,rfl,hx1,hx2,hx3⟩:=h;have HV:Hid (hgF x=(hgN x.c || hgM x.a || hgB x.r)):=rfl;have H1:=Zh (fun W (hb:Below w.heap.size w W)=>zJl xA xn xc x.c W (hx1.next zAQ hb));have H2:=Zh (fun W (hb:Below w.heap.size w W)=>zJn g4 xB xm xd x.a W (hx2.next zAh hb) (E.next hb).k4);have H3:=Zh (fun W (hb:Below w.heap.size w W)=>zJm xC xp xq x.r W (hx3.next zAX hb));clear hx1 hx2 hx3;generalize hgN x.c=b1 at *;generalize hgM x.a=b2 at *;generalize hgB x.r=b3 at *;have hb0:=zAE w (.cells #[.slice xA xn xc,.slice xB xm xd,.slice xC xp xq] 26);have ka:=Blk.new w 26 #[.slice xA xn xc,.slice xB xm xd,.slice xC xp xq];have k4:=E.k4.next hb0;have k5:=E.k5.next hb0;have k6:=E.k6.next hb0;clear E;have p4:=k4.cells1;have p5:=k5.cells1;have p6:=k6.cells1;go_enter Tryz.func40,Tryz.ntmps40
 go_wp2_with fail
 clear p4 p5 p6;generalize w.alloc (.cells #[.slice xA xn xc,.slice xB xm xd,.slice xC xp xq] 26)=W0 at *;refine (H1.out _ hb0).mono ?_;rintro e w1 ⟨rfl,hb1x⟩
 replace hb0:=zAA hb0 hb1x;replace ka:=ka.next hb1x;replace k4:=k4.next hb1x;replace k5:=k5.next hb1x;replace k6:=k6.next hb1x;clear hb1x;cases hv1:b1;rotate_left
 ·rw [hv1] at HV
  clear hv1;go_wp2_with fail
  go_ret;exact ⟨by rw [HV.out];rfl,hb0⟩
 rw [hv1] at HV;clear hv1;obtain ⟨kaq0,kaq1,kaq2⟩:=ka.cells3;have k4q0:=k4.cells1;have k5q0:=k5.cells1;have k6q0:=k6.cells1;go_wp2_with fail
 refine (H2.out _ hb0).mono ?_;rintro e w2 ⟨rfl,hb2x⟩
 clear kaq0 kaq1 kaq2 k4q0 k5q0 k6q0;replace hb0:=zAA hb0 hb2x;replace ka:=ka.next hb2x;replace k4:=k4.next hb2x;replace k5:=k5.next hb2x;replace k6:=k6.next hb2x;clear hb2x;cases hv1:b2;rotate_left
 ·rw [hv1] at HV
  clear hv1;go_wp2_with fail
  go_ret;exact ⟨by rw [HV.out];rfl,hb0⟩
 rw [hv1] at HV;clear hv1;obtain ⟨kaq0,kaq1,kaq2⟩:=ka.cells3;have k4q0:=k4.cells1;have k5q0:=k5.cells1;have k6q0:=k6.cells1;go_wp2_with fail
 refine (H3.out _ hb0).mono ?_;rintro e w3 ⟨rfl,hb3x⟩
 clear kaq0 kaq1 kaq2 k4q0 k5q0 k6q0;replace hb0:=zAA hb0 hb3x;replace ka:=ka.next hb3x;replace k4:=k4.next hb3x;replace k5:=k5.next hb3x;replace k6:=k6.next hb3x;clear hb3x;go_wp2_with fail
 go_ret;exact ⟨by rw [HV.out];rfl,hb0⟩
theorem zN9 (g4 g5 g6 g7:Nat) (vs:List Value) (x:Lk) (w:World) (h:RL w vs x) (E:zJL w g4 g5 g6 g7):Calls Tryz.prog 42 (#[.agg vs.toArray]++#[.pointer (some ⟨g5,0,none⟩),.pointer (some ⟨g7,0,none⟩),.pointer (some ⟨g6,0,none⟩)]) w (zBW (hgL x) w):=by
 obtain ⟨xH,xhs,xhc,xT,xtn,xtc,xA,xn,xc,xB,xm,xd,xC,xp,xq,xV,xvn,xvc,rfl,hx1,hx2,hx3,hx4,hx5,hx6⟩:=h;obtain ⟨⟨xhn,xhl,xhe⟩,xtu,xfe,xv⟩:=x;dsimp only at hx1 hx2 hx3 hx4 hx5 hx6 ⊢;have e:(#[.agg #[.bool xhn,.slice xH xhs xhc,.int .i64 xhe,.slice xT xtn xtc,.slice xA xn xc,.slice xB xm xd,.slice xC xp xq,.slice xV xvn xvc]]++#[.pointer (some ⟨g5,0,none⟩),.pointer (some ⟨g7,0,none⟩),.pointer (some ⟨g6,0,none⟩)]:Array Value)=#[.agg #[.bool xhn,.slice xH xhs xhc,.int .i64 xhe,.slice xT xtn xtc,.slice xA xn xc,.slice xB xm xd,.slice xC xp xq,.slice xV xvn xvc],.pointer (some ⟨g5,0,none⟩),.pointer (some ⟨g7,0,none⟩),.pointer (some ⟨g6,0,none⟩)]:=by simp
 rw [e];clear e;have HV:Hid (hgL ⟨⟨xhn,xhl,xhe⟩,xtu,xfe,xv⟩=(decide (12<xhs) || hgB xtu || hgF xfe || hgM xv)):=by unfold Hid hgL hgD;dsimp only;rw [hx1.len]
 have rx2:RF w [.slice xA xn xc,.slice xB xm xd,.slice xC xp xq] xfe:=⟨xA,xn,xc,xB,xm,xd,xC,xp,xq,rfl,hx3,hx4,hx5⟩;have m1:=hx1.cap;have m2:=hx1.max;have H2:=Zh (fun W (hb:Below w.heap.size w W)=>zJm xT xtn xtc xtu W (hx2.next zAX hb));have H3:=Zh (fun W (hb:Below w.heap.size w W)=>zJo g4 g5 g6 g7 _ xfe W (zBs w W _ _ rx2 hb) (E.next hb));have H4:=Zh (fun W (hb:Below w.heap.size w W)=>zJn g4 xV xvn xvc xv W (hx6.next zAh hb) (E.next hb).k4);clear hx1 hx2 hx3 hx4 hx5 hx6 rx2;generalize hgB xtu=b2 at *;generalize hgF xfe=b3 at *;generalize hgM xv=b4 at *;have hb0:=zAE w (.cells #[.bool xhn,.slice xH xhs xhc,.int .i64 xhe,.slice xT xtn xtc,.slice xA xn xc,.slice xB xm xd,.slice xC xp xq,.slice xV xvn xvc] 86);have ka:=Blk.new w 86 #[.bool xhn,.slice xH xhs xhc,.int .i64 xhe,.slice xT xtn xtc,.slice xA xn xc,.slice xB xm xd,.slice xC xp xq,.slice xV xvn xvc];have k5:=E.k5.next hb0;have k6:=E.k6.next hb0;have k7:=E.k7.next hb0;clear E;have p5:=k5.cells1;have p6:=k6.cells1;have p7:=k7.cells1;by_cases hn:12<xhs
 ·rw [Yf hn] at HV
  clear ka H2 H3 H4;go_enter Tryz.func42,Tryz.ntmps42
  go_wp2_with fail
  go_ret;exact ⟨by rw [HV.out];first | rfl | simp;omega,hb0⟩
 rw [Ye hn] at HV;have hd:decide (12<(xhs:Int))=false:=Ye (by omega);go_enter Tryz.func42,Tryz.ntmps42
 go_wp2_with fail
 clear p5 p6 p7;generalize w.alloc (.cells #[.bool xhn,.slice xH xhs xhc,.int .i64 xhe,.slice xT xtn xtc,.slice xA xn xc,.slice xB xm xd,.slice xC xp xq,.slice xV xvn xvc] 86)=W0 at *;refine (H2.out _ hb0).mono ?_;rintro e w1 ⟨rfl,hb1x⟩
 replace hb0:=zAA hb0 hb1x;replace ka:=ka.next hb1x;replace k5:=k5.next hb1x;replace k6:=k6.next hb1x;replace k7:=k7.next hb1x;clear hb1x;cases hv1:b2;rotate_left
 ·rw [hv1] at HV
  clear hv1;go_wp2_with fail
  go_ret;exact ⟨by rw [HV.out];rfl,hb0⟩
 rw [hv1] at HV;clear hv1;obtain ⟨kaq0,kaq1,kaq2,kaq3,kaq4,kaq5,kaq6,kaq7⟩:=ka.cells8;have k5q0:=k5.cells1;have k6q0:=k6.cells1;have k7q0:=k7.cells1;go_wp2_with fail
 refine (H3.out _ hb0).mono ?_;rintro e w2 ⟨rfl,hb2x⟩
 clear kaq0 kaq1 kaq2 kaq3 kaq4 kaq5 kaq6 kaq7 k5q0 k6q0 k7q0;replace hb0:=zAA hb0 hb2x;replace ka:=ka.next hb2x;replace k5:=k5.next hb2x;replace k6:=k6.next hb2x;replace k7:=k7.next hb2x;clear hb2x;cases hv1:b3;rotate_left
 ·rw [hv1] at HV
  clear hv1;go_wp2_with fail
  go_ret;exact ⟨by rw [HV.out];rfl,hb0⟩
 rw [hv1] at HV;clear hv1;obtain ⟨kaq0,kaq1,kaq2,kaq3,kaq4,kaq5,kaq6,kaq7⟩:=ka.cells8;have k5q0:=k5.cells1;have k6q0:=k6.cells1;have k7q0:=k7.cells1;go_wp2_with fail
 refine (H4.out _ hb0).mono ?_;rintro e w3 ⟨rfl,hb3x⟩
 clear kaq0 kaq1 kaq2 kaq3 kaq4 kaq5 kaq6 kaq7 k5q0 k6q0 k7q0;replace hb0:=zAA hb0 hb3x;replace ka:=ka.next hb3x;replace k5:=k5.next hb3x;replace k6:=k6.next hb3x;replace k7:=k7.next hb3x;clear hb3x;go_wp2_with fail
 go_ret;exact ⟨by rw [HV.out];rfl,hb0⟩
theorem zLr (vs:List Value) (x:Ct) (w:World) (h:RC w vs x):Calls Tryz.prog 8 #[.agg vs.toArray] w (zBW (hgC x) w):=by
 have hmf:∀ (fn:Fn) (first cap:Array Value) (w:World),(Instr.makeFunc fn first cap).run Tryz.prog w=.ok (.func fn first cap) w:=fun _ _ _ _=>rfl
 obtain ⟨xA,xn,xc,xB,xm,xd,xC,xp,xq,xL,xln,xlc,rfl,hx1,hx2,hx3,hx4⟩:=h;obtain ⟨xpr,xod,xst,xls⟩:=x;dsimp only at hx1 hx2 hx3 hx4 ⊢;have HV:Hid (hgC ⟨xpr,xod,xst,xls⟩=(decide (20<xln) || hgF xst || xls.any hgL)):=by unfold Hid hgC;dsimp only;rw [hx4.len]
 have rx2:RF w [.slice xA xn xc,.slice xB xm xd,.slice xC xp xq] xst:=⟨xA,xn,xc,xB,xm,xd,xC,xp,xq,rfl,hx1,hx2,hx3⟩;have H1:=Zh (fun W (hb:Below w.heap.size w W) (g4 g5 g6 g7:Nat) (E:zJL W g4 g5 g6 g7)=>zJo g4 g5 g6 g7 _ xst W (zBs w W _ _ rx2 hb) E);have H2:=Zh (fun W (hb:Below w.heap.size w W) (g4 g5 g6 g7:Nat) (E:zJL W g4 g5 g6 g7)=>zEP hgL 42 #[.pointer (some ⟨g5,0,none⟩),.pointer (some ⟨g7,0,none⟩),.pointer (some ⟨g6,0,none⟩)] xL xln xlc xls W (hx4.next zBt hb) (zCQ Tryz.func42 (by kernel_rfl) rfl) (fun V us y hb' _ hr=>zN9 g4 g5 g6 g7 us y V hr (E.next hb')));have m1:=hx4.cap;have m2:=hx4.max;clear hx1 hx2 hx3 hx4 rx2;generalize hgF xst=b1 at *;generalize xls.any hgL=b2 at *;have HE:∃V,V=(((((w.alloc (.cells #[.int .i64 xpr,.int .i64 xod,.slice xA xn xc,.slice xB xm xd,.slice xC xp xq,.slice xL xln xlc] 29)).alloc (.cells #[.func (.func 32) #[] #[]] 90)).alloc (.cells #[.func (.func 35) #[] #[]] 93)).alloc (.cells #[.func (.func 38) #[] #[.pointer (some ⟨w.heap.size+1,0,none⟩)]] 95)).alloc (.cells #[.func (.func 40) #[] #[.pointer (some ⟨w.heap.size+1,0,none⟩),.pointer (some ⟨w.heap.size+1+1+1,0,none⟩),.pointer (some ⟨w.heap.size+1+1,0,none⟩)]] 96))/\Below w.heap.size w V/\Blk V w.heap.size 29 #[.int .i64 xpr,.int .i64 xod,.slice xA xn xc,.slice xB xm xd,.slice xC xp xq,.slice xL xln xlc]/\zJL V (w.heap.size+1) (w.heap.size+1+1) (w.heap.size+1+1+1) (w.heap.size+1+1+1+1):=by
  obtain ⟨V1,e1⟩:∃V,V=w.alloc (.cells #[.int .i64 xpr,.int .i64 xod,.slice xA xn xc,.slice xB xm xd,.slice xC xp xq,.slice xL xln xlc] 29):=⟨_,rfl⟩;have b1:Below w.heap.size w V1:=by rw [e1];exact zAE _ _
  have s1:V1.heap.size=w.heap.size+1:=by rw [e1];simp
  have k1:Blk V1 w.heap.size 29 #[.int .i64 xpr,.int .i64 xod,.slice xA xn xc,.slice xB xm xd,.slice xC xp xq,.slice xL xln xlc]:=by rw [e1];exact Blk.new _ _ _
  obtain ⟨V2,e2⟩:∃V,V=V1.alloc (.cells #[.func (.func 32) #[] #[]] 90):=⟨_,rfl⟩;have b2:Below V1.heap.size V1 V2:=by rw [e2];exact zAE _ _
  have s2:V2.heap.size=V1.heap.size+1:=by rw [e2];simp
  have k2:Blk V2 V1.heap.size 90 #[.func (.func 32) #[] #[]]:=by rw [e2];exact Blk.new _ _ _
  obtain ⟨V3,e3⟩:∃V,V=V2.alloc (.cells #[.func (.func 35) #[] #[]] 93):=⟨_,rfl⟩;have b3:Below V2.heap.size V2 V3:=by rw [e3];exact zAE _ _
  have s3:V3.heap.size=V2.heap.size+1:=by rw [e3];simp
  have k3:Blk V3 V2.heap.size 93 #[.func (.func 35) #[] #[]]:=by rw [e3];exact Blk.new _ _ _
  obtain ⟨V4,e4⟩:∃V,V=V3.alloc (.cells #[.func (.func 38) #[] #[.pointer (some ⟨w.heap.size+1,0,none⟩)]] 95):=⟨_,rfl⟩;have b4:Below V3.heap.size V3 V4:=by rw [e4];exact zAE _ _
  have s4:V4.heap.size=V3.heap.size+1:=by rw [e4];simp
  have k4:Blk V4 V3.heap.size 95 #[.func (.func 38) #[] #[.pointer (some ⟨w.heap.size+1,0,none⟩)]]:=by rw [e4];exact Blk.new _ _ _
  obtain ⟨V5,e5⟩:∃V,V=V4.alloc (.cells #[.func (.func 40) #[] #[.pointer (some ⟨w.heap.size+1,0,none⟩),.pointer (some ⟨w.heap.size+1+1+1,0,none⟩),.pointer (some ⟨w.heap.size+1+1,0,none⟩)]] 96):=⟨_,rfl⟩;have b5:Below V4.heap.size V4 V5:=by rw [e5];exact zAE _ _
  have s5:V5.heap.size=V4.heap.size+1:=by rw [e5];simp
  have k5:Blk V5 V4.heap.size 96 #[.func (.func 40) #[] #[.pointer (some ⟨w.heap.size+1,0,none⟩),.pointer (some ⟨w.heap.size+1+1+1,0,none⟩),.pointer (some ⟨w.heap.size+1+1,0,none⟩)]]:=by rw [e5];exact Blk.new _ _ _
  have z2:V1.heap.size=w.heap.size+1:=by omega
  rw [z2] at k2;have z3:V2.heap.size=w.heap.size+1+1:=by omega
  rw [z3] at k3;have z4:V3.heap.size=w.heap.size+1+1+1:=by omega
  rw [z4] at k4;have z5:V4.heap.size=w.heap.size+1+1+1+1:=by omega
  rw [z5] at k5;refine ⟨V5,by rw [e5,e4,e3,e2,e1],(zAA (zAA (zAA (zAA b1 b2) b3) b4) b5),((((k1.next b2).next b3).next b4).next b5),⟨(((k2.next b3).next b4).next b5),((k3.next b4).next b5),(k4.next b5),k5⟩⟩
 obtain ⟨V,hV,hb0,ka,E⟩:=HE;by_cases hn:20<xln
 ·rw [Yf hn] at HV
  clear ka E H1 H2;go_enter Tryz.func8,Tryz.ntmps8
  go_wp2_with fail
  go_ret;rw [hV] at hb0;exact ⟨by rw [HV.out];first | rfl | simp;omega,hb0⟩
 rw [Ye hn] at HV;have hd:decide (20<(xln:Int))=false:=Ye (by omega);have HVV:=Zh hV;clear hV;go_enter Tryz.func8,Tryz.ntmps8
 go_wp2_with fail
 have hV:=HVV.out;clear HVV;rw [<- hV];clear hV;refine (H1.out _ hb0 _ _ _ _ E).mono ?_;rintro e w1 ⟨rfl,hb1x⟩
 replace hb0:=zAA hb0 hb1x;replace ka:=ka.next hb1x;replace E:=E.next hb1x;clear hb1x;cases hv1:b1;rotate_left
 ·rw [hv1] at HV
  clear hv1;go_wp2_with fail
  go_ret;exact ⟨by rw [HV.out];rfl,hb0⟩
 rw [hv1] at HV;clear hv1;obtain ⟨kaq0,kaq1,kaq2,kaq3,kaq4,kaq5⟩:=ka.cells6;have p4:=E.k4.cells1;have p5:=E.k5.cells1;have p6:=E.k6.cells1;have p7:=E.k7.cells1;go_wp2_with fail
 clear p4 p5 p6 p7;refine (H2.out _ hb0 _ _ _ _ E).mono ?_;rintro e w2 ⟨rfl,hb2x⟩
 clear kaq0 kaq1 kaq2 kaq3 kaq4 kaq5;replace hb0:=zAA hb0 hb2x;replace ka:=ka.next hb2x;replace E:=E.next hb2x;clear hb2x;go_wp2_with fail
 go_ret;exact ⟨by rw [HV.out];rfl,hb0⟩
structure zHf {α:Type}(e:TypeId) (k:Nat) (R:World->List Value->α->Prop) (G:Nat->Prop) (base:Nat) (w:World) (v:Value) (fs:List (List Value)) (xs:List α):Prop where
 own:zKf e k w base v fs
 len:xs.length=fs.length
 each:∀ (j:Nat) (f:List Value) (x:α),fs[j]? = some f->xs[j]? = some x->On w.heap.size (fun b=>b<w.heap.size/\(G b\/base<=b)/\v.ownBlock≠some b) w (fun W=>R W f x)
section
variable {α:Type}{e:TypeId}{k:Nat}{R:World->List Value->α->Prop}{G:Nat->Prop}{base:Nat}{w w':World}{v:Value}{fs:List (List Value)}{xs:List α}
theorem zHf.nil (e:TypeId) (k:Nat) (R:World->List Value->α->Prop) (G:Nat->Prop) {base:Nat}(w:World):zHf e k R G base w (.slice none 0 0) [] []:=⟨zKf.nil _ _ _ _,rfl,fun j f x h=>by simp at h⟩
theorem zHf.keep (h:zHf e k R G base w v fs xs) (hs:w.heap.size<=w'.heap.size) (hb:∀b,b<w.heap.size->(G b\/base<=b)->w'.heap[b]? = w.heap[b]?):zHf e k R G base w' v fs xs:=by
 refine ⟨⟨⟨h.own.own.1,?_⟩,h.own.len⟩,h.len,fun j f x hf hx=>?_⟩
 ·rcases h.own.own.2 with hn | ⟨g,cap,cur,hv,hbg,hg,rest⟩
  ·exact .inl hn
  ·exact .inr ⟨g,cap,cur,hv,hbg,(hb g (Yv.1 hg).1 (.inr hbg)).trans hg,rest⟩
 ·exact ((h.each j f x hf hx).move (fun b hF=>hb b hF.1 hF.2.1)).sub hs (fun b hF=>⟨Yh hF.1 hs,hF.2⟩)
theorem zHf.below (h:zHf e k R G base w v fs xs) (hb:Below w.heap.size w w'):zHf e k R G base w' v fs xs:=h.keep hb.size (fun b h2 _=>hb.block b h2)
theorem zHf.next (hacc:zHf e k R G base w v fs xs) {v':Value}{f:List Value}{y:α}(hGl:∀b,G b->b<base)
  (h2:w'.ownsRow base e k v' (fs.length+1) (fs.flatten++f)) (h3:w.grownBy w' v.ownBlock) (h5:v'.ownBlock=v.ownBlock\/v'.ownBlock=some w.heap.size) (hn:f.length=k)
  (hR:On w.heap.size (fun b=>b<w.heap.size/\(G b\/base<=b)/\v.ownBlock≠some b) w (fun W=>R W f y)) :
  zHf e k R G base w' v' (fs++[f]) (xs++[y]):=by
 have key:∀ (u:List Value) (x:α),On w.heap.size (fun b=>b<w.heap.size/\(G b\/base<=b)/\v.ownBlock≠some b) w (fun W=>R W u x)->On w'.heap.size (fun b=>b<w'.heap.size/\(G b\/base<=b)/\v'.ownBlock≠some b) w' (fun W=>R W u x):=by
  intro u x h;refine (h.move (fun b hF=>h3.block b hF.1 (fun e=>hF.2.2 e.symm))).sub h3.size (fun b hF=>⟨Yh hF.1 h3.size,hF.2.1,fun e=>?_⟩);rcases h5 with h5 | h5
  ·exact hF.2.2 (by rw [<- h5];exact e)
  ·rw [h5] at e
   injection e with e
   have:=hF.1;omega
 refine ⟨⟨?_,?_⟩,?_,?_⟩
 ·rw [Yu,List.flatten_append];simpa using h2
 ·intro f' hf
  rcases Yt.1 hf with hf | hf
  ·exact hacc.own.len f' hf
  ·rw [List.mem_singleton.1 hf];exact hn
 ·rw [Yu,Yu,hacc.len];rfl
 ·intro j f' x' hf hx'
  by_cases hj:j<fs.length
  ·rw [Yw hj] at hf
   rw [Yw (by rw [hacc.len];exact hj)] at hx';exact key _ _ (hacc.each j f' x' hf hx')
  ·have hj':j<(fs++[f]).length:=(Yb.1 hf).1
   have hj2:j=fs.length:=by simp at hj';omega
   subst hj2;rw [Yx (Ya _),Nat.sub_self] at hf;rw [Yx (by rw [hacc.len];exact Ya _),hacc.len,Nat.sub_self] at hx';simp at hf hx';subst hf hx';exact key _ _ hR
theorem zHf.on (h:zHf e k R G base w v fs xs):∃A c,v=.slice A xs.length c/\(∀ad,A=some ad->base<=ad.block)/\On w.heap.size (fun b=>b<w.heap.size/\(G b\/base<=b)) w (fun W=>Sl k R W A xs.length c xs):=by
 obtain ⟨A,c,hv,_,_⟩:=h.own.form;rw [<- h.len] at hv;refine ⟨A,c,hv,fun ad hA=>?_,fun W h1 h2=>?_⟩
 ·have:=(h.own.lt ad.block (by rw [hv,hA];rfl)).1
  exact this
 have h':zHf e k R G base W v fs xs:=h.keep h1 (fun b hb hF=>h2 b ⟨hb,hF⟩);obtain ⟨A',c',hv',hs⟩:=h'.own.sl (R:=R) (xs:=xs) h.len (fun j f x hf hx=>(h'.each j f x hf hx).here (Ya _));rw [<- h.len] at hv' hs;rw [hv] at hv';injection hv' with e1 e2 e3
 subst e1 e3;exact hs
end
section
variable {P:Program}{α:Type}{R:World->List Value->α->Prop}{G:Nat->Prop}
theorem zEn {w:World}{ops:Array Oper}{rest:List Oper}{o:Oper}{a:Act}{Q:Exit->Act->World->Prop}(hgd:o.guard=none) (s x:Operand) (t:TypeId)
  (ho:o.op=.call { callee:=.builtin .append,args:=#[s,x],argTypes:=#[t,t] })
  (e:TypeId) (k bytes:Nat) (z:Value) (hinfo:(P.info? e).map (fun i=>(i.zero,i.size,i.bytes))=some (some z,k,bytes)) (hz:z.cells.size=k) (hk:0<k) (hby:bytes<=1000) (ht:P.underlying t=some (.slice e))
  (base:Nat) (v:Value) (fs:List (List Value)) (xs:List α) (hs:a.eval s=v) (hacc:zHf e k R G base w v fs xs)
  (ad:Addr) (c:Nat) (f:List Value) (y:α) (hx:a.eval x=.slice (some ad) 1 c) (hn:f.length=k) (hc:∀ (j:Nat) (u:Value),f[j]? = some u->w.cell? (ad.add j)=some u) (h1:∀u∈f,u.oneCell' = true)
  (hlen:fs.length<=1000000) (hbase:base<=w.heap.size) (hGl:∀b,G b->b<base)
  (hR:On w.heap.size (fun b=>b<w.heap.size/\(G b\/base<=b)/\v.ownBlock≠some b) w (fun W=>R W f y))
  (h:∀v' w',zHf e k R G base w' v' (fs++[f]) (xs++[y])->Below base w w'->w.grownBy w' v.ownBlock->wpList P ops Q rest (a.put o.dst v') w'):wpList P ops Q (o::rest) a w:=by
 obtain ⟨i,hi,hz',hsize,hb'⟩:=info_parts hinfo;refine wpList_append_own_at _ hgd s x t ho base e i z k bytes ht hi hz' hsize hb' hz hk v fs.length fs.flatten hs hacc.own.own ad 1 c f hx (by omega) hc h1 (by simp only [maxLen];omega) ?_ hbase (fun v' w' h2 h3 _ h5=>?_)
 ·exact Yq (Nat.mul_le_mul (show fs.length+1<=1000001 by omega) hby) (by omega)
 ·exact h v' w' (hacc.next hGl h2 h3 h5 hn hR) ((Yp _ _).grown h3 hbase (fun k hk=>(hacc.own.lt k hk).1)) h3
end
theorem zQg {E:Nat}{G:Nat->Prop}{w:World}{vs:List Value}{d:Dy}(h:On E G w (fun W=>RD W vs d)) (hE:E<=w.heap.size):∃A n c,vs=[.bool d.neg,.slice A n c,.int .i64 d.e]/\On E G w (fun W=>SL W A n c d.l):=by
 obtain ⟨A,n,c,rfl,_⟩:=h.here hE;refine ⟨A,n,c,rfl,fun W h1 h2=>?_⟩;obtain ⟨A',n',c',e,k⟩:=h W h1 h2;simp at e;obtain ⟨rfl,rfl,rfl⟩:=e;exact k
theorem zOe {α:Type}{k:Nat}{R:World->List Value->α->Prop}{G:Nat->Prop}{w:World}{A:Option Addr}{n c:Nat}{xs:List α}(h:On w.heap.size G w (fun W=>Sl k R W A n c xs)) (hk:0<k) (h0:∀W vs x,R W vs x->vs[0]? ≠ some (.int .u32 7)) {i:Nat}(hi:i<n) :
  ∃ (b off:Nat) (x:α) (vs:List Value),A=some ⟨b,off,none⟩/\b<w.heap.size/\G b/\xs[i]? = some x/\vs.length=k/\(∀ (j:Nat) (v:Value),vs[j]? = some v->w.cell? ⟨b,off+i*k+j,none⟩=some v)/\On w.heap.size G w (fun W=>R W vs x):=by
 obtain ⟨b,off,x,vs,e,hb,hx,hl,hR,hc⟩:=(h.here (Ya _)).get hi;have hGb:G b:=by
  rcases Classical.em (G b) with hG | hG
  ·exact hG
  ·exfalso
   have h1:=h (w.setCell ⟨b,off+i*k,none⟩ (.int .u32 7)) (by simp [World.setCell]) (fun b' hb'=>Yl _ _ _ _ (fun e=>hG (by rw [show b' = b from e] at hb';exact hb')));obtain ⟨b2,off2,x2,vs2,e2,_,hx2,hl2,hR2,hc2⟩:=h1.get hi;rw [e] at e2;injection e2 with e2
   injection e2 with e2 e3 _
   subst e2 e3;have z1:0<vs.length:=by omega
   have z2:0<vs2.length:=by omega
   have c0:=hc 0 vs[0] (Yo z1);have c1:=hc2 0 vs2[0] (Yo z2);rw [Nat.add_zero] at c0 c1;rw [World.cell?_setCell_same _ _ _ c0] at c1;injection c1 with c1
   exact h0 _ _ _ hR2 (by rw [Yo z2,<- c1])
 refine ⟨b,off,x,vs,e,hb,hGb,hx,hl,hc,fun W h1 h2=>?_⟩;obtain ⟨b2,off2,x2,vs2,e2,_,hx2,hl2,hR2,hc2⟩:=(h W h1 h2).get hi;rw [e] at e2;injection e2 with e2
 injection e2 with e2 e3 _
 subst e2 e3;rw [hx] at hx2;injection hx2 with hx2
 subst hx2;have ev:vs2=vs:=by
  apply List.ext_getElem (by omega)
  intro j j1 j2;have c0:=hc j vs[j] (Yo j2);have c1:=hc2 j vs2[j] (Yo j1);rw [World.cell?_of_block (w:=w) (a:=⟨b,off+i*k+j,none⟩) (h2 b hGb),c0] at c1;injection c1 with c1
  exact c1.symm
 rw [<- ev];exact hR2
theorem zNo {W W':World}(h:W'.heap=W.heap) (p:Addr):W'.cell? p=W.cell? p:=by unfold World.cell?;rw [h]
def HpO {α:Type}(R:World->List Value->α->Prop):Prop:=∀W W' vs x,W'.heap=W.heap->R W vs x->R W' vs x
theorem SL.hp {W W':World}{A:Option Addr}{n c:Nat}{l:List Nat}(h:SL W A n c l) (e:W'.heap=W.heap):SL W' A n c l:=
 ⟨h.len,h.cap,h.max,h.lt,fun hn=>by
  obtain ⟨b,off,e1,hb,hc⟩:=h.at_ hn;exact ⟨b,off,e1,by rw [e];exact hb,fun j x hj=>(zNo e _).trans (hc j x hj)⟩⟩
theorem Sl.hp {α:Type}{k:Nat}{R:World->List Value->α->Prop}{W W':World}{A:Option Addr}{n c:Nat}{xs:List α}(h:Sl k R W A n c xs) (hR:HpO R) (e:W'.heap=W.heap):Sl k R W' A n c xs:=
 ⟨h.len,h.cap,h.max,fun hn=>by
  obtain ⟨b,off,e1,hb,hc⟩:=h.at_ hn;refine ⟨b,off,e1,by rw [e];exact hb,fun j x hj=>?_⟩;obtain ⟨vs,h1,h2,h3⟩:=hc j x hj;exact ⟨vs,h1,hR _ _ _ _ e h2,fun i v hi=>(zNo e _).trans (h3 i v hi)⟩⟩
theorem zSP:HpO RD:=by
 rintro W W' vs x e ⟨A,n,c,rfl,h⟩
 exact ⟨A,n,c,rfl,h.hp e⟩
theorem zUA:HpO RI:=by
 rintro W W' vs x e ⟨A,n,c,B,m,d,rfl,h,h'⟩
 exact ⟨A,n,c,B,m,d,rfl,h.hp e,h'.hp e⟩
theorem zUC:HpO RM:=by
 rintro W W' vs x e ⟨A,n,c,rfl,h⟩
 exact ⟨A,n,c,rfl,h.hp zSP e⟩
theorem zUB:HpO RL:=by
 rintro W W' vs x e ⟨H,hn,hc,T,tn,tc,A,n,c,B,m,d,C,p,q,V,vn,vc,rfl,h1,h2,h3,h4,h5,h6⟩
 exact ⟨H,hn,hc,T,tn,tc,A,n,c,B,m,d,C,p,q,V,vn,vc,rfl,h1.hp e,h2.hp zUA e,h3.hp zSP e,h4.hp zUC e,h5.hp zUA e,h6.hp zUC e⟩
theorem zeL {α:Type}{R:World->List Value->α->Prop}(hl:zJM R) (hR:HpO R) {w:World}{vs:List Value}{x:α}(h:R w vs x):On w.heap.size (fun b=>b<w.heap.size) w (fun W=>R W vs x):=fun W h1 h2=>
 hR { w with heap:=W.heap } W vs x rfl (hl w { w with heap:=W.heap } vs x h ⟨rfl,rfl,rfl,h1,h2⟩)
theorem zVT:∀W vs (x:Lk),RL W vs x->vs[0]? ≠ some (.int .u32 7):=by
 rintro W vs x ⟨H,hn,hc,T,tn,tc,A,n,c,B,m,d,C,p,q,V,vn,vc,rfl,_⟩
 simp
structure zmc {α:Type}(e:TypeId) (k:Nat) (R:World->List Value->α->Prop) (lo base:Nat) (w:World) (v:Value) (fs:List (List Value)) (xs:List α):Prop where
 le:lo<=base
 own:zKf e k w base v fs
 len:xs.length=fs.length
 each:∀ (j:Nat) (f:List Value) (x:α),fs[j]? = some f->xs[j]? = some x->On lo (fun b=>b<lo) w (fun W=>R W f x)
def Dj (v u:Value):Prop:=∀o,v.ownBlock=some o->u.ownBlock≠some o
theorem Dj.symm {v u:Value}(h:Dj v u):Dj u v:=fun o h1 h2=>h o h2 h1
theorem Dj.nil {u:Value}:Dj (.slice none 0 0) u:=fun o h=>by cases h
theorem Dj.nil' {u:Value}:Dj u (.slice none 0 0):=fun o _ h=>by cases h
section
variable {α:Type}{e:TypeId}{k:Nat}{R:World->List Value->α->Prop}{lo base:Nat}{w w':World}{v:Value}{fs:List (List Value)}{xs:List α}
theorem zmc.nil (e:TypeId) (k:Nat) (R:World->List Value->α->Prop) {lo base:Nat}(hl:lo<=base) (w:World):zmc e k R lo base w (.slice none 0 0) [] []:=⟨hl,zKf.nil _ _ _ _,rfl,fun j f x h=>by simp at h⟩
theorem zmc.keep (h:zmc e k R lo base w v fs xs) (hb:∀b,b<lo->w'.heap[b]? = w.heap[b]?) (ho:∀o,base<=o->o<w.heap.size->v.ownBlock=some o->w'.heap[o]? = w.heap[o]?):zmc e k R lo base w' v fs xs:=by
 refine ⟨h.le,⟨⟨h.own.own.1,?_⟩,h.own.len⟩,h.len,fun j f x hf hx=>(h.each j f x hf hx).move (fun b hb'=>hb b hb')⟩;rcases h.own.own.2 with hn | ⟨g,cap,cur,hv,hbg,hg,rest⟩
 ·exact .inl hn
 ·exact .inr ⟨g,cap,cur,hv,hbg,(ho g hbg (Yv.1 hg).1 (by rw [hv];rfl)).trans hg,rest⟩
theorem zmc.below (h:zmc e k R lo base w v fs xs) (hs:lo<=w.heap.size) (hb:Below w.heap.size w w'):zmc e k R lo base w' v fs xs:=h.keep (fun b hb'=>hb.block b (by omega)) (fun o _ ho _=>hb.block o ho)
theorem zmc.lt (h:zmc e k R lo base w v fs xs):∀g,v.ownBlock=some g->base<=g/\g<w.heap.size:=h.own.lt
theorem zmc.other (h:zmc e k R lo base w v fs xs) (hs:lo<=w.heap.size) {u:Value}(hg:w.grownBy w' u.ownBlock) (hu:∀g,u.ownBlock=some g->base<=g) (hd:Dj u v):zmc e k R lo base w' v fs xs:=
 have hle:=h.le
 h.keep (fun b hb=>hg.block b (by omega) (fun e=>by have:=hu b e.symm;omega)) (fun o _ ho hv=>hg.block o ho (fun e=>hd o e.symm hv))
theorem zmc.next (hacc:zmc e k R lo base w v fs xs) {v':Value}{f:List Value}{y:α}(hs:lo<=w.heap.size)
  (h2:w'.ownsRow base e k v' (fs.length+1) (fs.flatten++f)) (h3:w.grownBy w' v.ownBlock) (hn:f.length=k)
  (hR:On lo (fun b=>b<lo) w (fun W=>R W f y)):zmc e k R lo base w' v' (fs++[f]) (xs++[y]):=by
 have hle:=hacc.le;have hbl:∀b,b<lo->w'.heap[b]? = w.heap[b]?:=fun b hb=>h3.block b (by omega) (fun e=>by have:=(hacc.lt b e.symm).1;omega)
 refine ⟨hle,⟨?_,?_⟩,?_,?_⟩
 ·rw [Yu,List.flatten_append];simpa using h2
 ·intro f' hf
  rcases Yt.1 hf with hf | hf
  ·exact hacc.own.len f' hf
  ·rw [List.mem_singleton.1 hf];exact hn
 ·rw [Yu,Yu,hacc.len];rfl
 ·intro j f' x' hf hx'
  by_cases hj:j<fs.length
  ·rw [Yw hj] at hf
   rw [Yw (by rw [hacc.len];exact hj)] at hx';exact (hacc.each j f' x' hf hx').move hbl
  ·have hj':j<(fs++[f]).length:=(Yb.1 hf).1
   have hj2:j=fs.length:=by simp at hj';omega
   subst hj2;rw [Yx (Ya _),Nat.sub_self] at hf;rw [Yx (by rw [hacc.len];exact Ya _),hacc.len,Nat.sub_self] at hx';simp at hf hx';subst hf hx';exact hR.move hbl
theorem zmc.sl (h:zmc e k R lo base w v fs xs) (hs:lo<=w.heap.size):∃A c,v=.slice A xs.length c/\Sl k R w A xs.length c xs:=by
 obtain ⟨A,c,hv,hsl⟩:=h.own.sl (R:=R) (xs:=xs) h.len (fun j f x hf hx=>(h.each j f x hf hx).here hs);rw [<- h.len] at hv hsl;exact ⟨A,c,hv,hsl⟩
theorem zmc.one {f:List Value}{y:α}{g:Nat}(hl:lo<=base) (hg:base<=g) (hb:Blk w g e f.toArray) (hn:f.length=k) (hR:On lo (fun b=>b<lo) w (fun W=>R W f y)):zmc e k R lo base w (.slice (some ⟨g,0,none⟩) 1 1) [f] [y]:=by
 refine ⟨hl,⟨⟨by simp [hn],.inr ⟨g,1,f.toArray,rfl,hg,hb,Ya _,by simp [maxLen],by simp [hn],by simp [<- hn]⟩⟩,by simpa using hn⟩,rfl,fun j f' x hf hx=>?_⟩;have hj:j=0:=by have:=(Yb.1 hf).1;simp at this;exact this
 subst hj;simp at hf hx;subst hf hx;exact hR
end
theorem zmX {v v' u:Value}{n:Nat}(h:Dj v u) (h5:v'.ownBlock=v.ownBlock\/v'.ownBlock=some n) (hu:∀g,u.ownBlock=some g->g<n):Dj v' u:=by
 intro o h1 h2;rcases h5 with h5 | h5
 ·exact h o (by rw [<- h5];exact h1) h2
 ·rw [h5] at h1
  injection h1 with h1
  have:=hu o h2;omega
theorem Blk.cells4 {w:World}{g:Nat}{t:TypeId}{a b c d:Value}(h:Blk w g t #[a,b,c,d]):w.cell? ⟨g,0,none⟩=some a/\w.cell? ⟨g,1,none⟩=some b/\w.cell? ⟨g,2,none⟩=some c/\w.cell? ⟨g,3,none⟩=some d:=⟨h.cell 0,h.cell 1,h.cell 2,h.cell 3⟩
structure Tk where
 frames:List Fr
 v:List (List (List Dy))
 tubes:List (List Iv)
 steps:List Dy
def RV1 (w:World) (vs:List Value) (m:List (List Dy)):Prop:=∃A n c,vs=[.slice A n c]/\Sl 1 RM w A n c m
def RB1 (w:World) (vs:List Value) (b:List Iv):Prop:=∃A n c,vs=[.slice A n c]/\Sl 7 RI w A n c b
def RT (w:World) (vs:List Value) (t:Tk):Prop:=∃A n c B m d C p q S s z,vs=[.slice A n c,.slice B m d,.slice C p q,.slice S s z]/\Sl 3 RF w A n c t.frames/\Sl 1 RV1 w B m d t.v/\Sl 1 RB1 w C p q t.tubes/\Sl 3 RD w S s z t.steps
theorem zmt:zJM RV1:=fun w W vs x ⟨A,n,c,e,h⟩ hb=>⟨A,n,c,e,h.next zAh hb⟩
theorem zml:zJM RB1:=fun w W vs x ⟨A,n,c,e,h⟩ hb=>⟨A,n,c,e,h.next zAX hb⟩
def trP (x:Ct):Tk:=⟨x.start::x.links.map Lk.e,x.links.map Lk.v,x.links.map Lk.tube,x.links.map Lk.h⟩
structure TkA (lo base:Nat) (w:World) (vF vV vT vS:Value) (fF fV fT fS:List (List Value)) (tr:Tk):Prop where
 f:zmc 26 3 RF lo base w vF fF tr.frames
 v:zmc 23 1 RV1 lo base w vV fV tr.v
 t:zmc 24 1 RB1 lo base w vT fT tr.tubes
 s:zmc 41 3 RD lo base w vS fS tr.steps
 fv:Dj vF vV
 ft:Dj vF vT
 fs:Dj vF vS
 vt:Dj vV vT
 vs:Dj vV vS
 ts:Dj vT vS
section
variable {lo base:Nat}{w w':World}{vF vV vT vS v':Value}{fF fV fT fS:List (List Value)}{f:List Value}{t:Tk}
theorem TkA.below (h:TkA lo base w vF vV vT vS fF fV fT fS t) (hs:lo<=w.heap.size) (hb:Below w.heap.size w w'):TkA lo base w' vF vV vT vS fF fV fT fS t:=
 ⟨h.f.below hs hb,h.v.below hs hb,h.t.below hs hb,h.s.below hs hb,h.fv,h.ft,h.fs,h.vt,h.vs,h.ts⟩
theorem TkA.keep (h:TkA lo base w vF vV vT vS fF fV fT fS t) (hs:lo<=w.heap.size) {g:Nat}(hb:∀b,b<w.heap.size->b≠g->w'.heap[b]? = w.heap[b]?) (hg:lo<=g) (h1:vF.ownBlock≠some g) (h2:vV.ownBlock≠some g) (h3:vT.ownBlock≠some g) (h4:vS.ownBlock≠some g):TkA lo base w' vF vV vT vS fF fV fT fS t:=
 ⟨h.f.keep (fun b hb'=>hb b (by omega) (by omega)) (fun o _ ho e=>hb o ho (fun e2=>h1 (e2 ▸ e))),
  h.v.keep (fun b hb'=>hb b (by omega) (by omega)) (fun o _ ho e=>hb o ho (fun e2=>h2 (e2 ▸ e))),
  h.t.keep (fun b hb'=>hb b (by omega) (by omega)) (fun o _ ho e=>hb o ho (fun e2=>h3 (e2 ▸ e))),
  h.s.keep (fun b hb'=>hb b (by omega) (by omega)) (fun o _ ho e=>hb o ho (fun e2=>h4 (e2 ▸ e))),h.fv,h.ft,h.fs,h.vt,h.vs,h.ts⟩
theorem TkA.addF (h:TkA lo base w vF vV vT vS fF fV fT fS t) (hs:lo<=w.heap.size) {y:Fr}(h2:w'.ownsRow base 26 3 v' (fF.length+1) (fF.flatten++f)) (h3:w.grownBy w' vF.ownBlock) (h5:v'.ownBlock=vF.ownBlock\/v'.ownBlock=some w.heap.size) (hn:f.length=3)
  (hR:On lo (fun b=>b<lo) w (fun W=>RF W f y)):TkA lo base w' v' vV vT vS (fF++[f]) fV fT fS { t with frames:=t.frames++[y] }:=
 have hu:∀g,vF.ownBlock=some g->base<=g:=fun g e=>(h.f.lt g e).1
 ⟨h.f.next hs h2 h3 hn hR,h.v.other hs h3 hu h.fv,h.t.other hs h3 hu h.ft,h.s.other hs h3 hu h.fs,
  zmX h.fv h5 (fun g e=>(h.v.lt g e).2),zmX h.ft h5 (fun g e=>(h.t.lt g e).2),zmX h.fs h5 (fun g e=>(h.s.lt g e).2),h.vt,h.vs,h.ts⟩
theorem TkA.addV (h:TkA lo base w vF vV vT vS fF fV fT fS t) (hs:lo<=w.heap.size) {y:List (List Dy)}(h2:w'.ownsRow base 23 1 v' (fV.length+1) (fV.flatten++f)) (h3:w.grownBy w' vV.ownBlock) (h5:v'.ownBlock=vV.ownBlock\/v'.ownBlock=some w.heap.size) (hn:f.length=1)
  (hR:On lo (fun b=>b<lo) w (fun W=>RV1 W f y)):TkA lo base w' vF v' vT vS fF (fV++[f]) fT fS { t with v:=t.v++[y] }:=
 have hu:∀g,vV.ownBlock=some g->base<=g:=fun g e=>(h.v.lt g e).1
 ⟨h.f.other hs h3 hu h.fv.symm,h.v.next hs h2 h3 hn hR,h.t.other hs h3 hu h.vt,h.s.other hs h3 hu h.vs,
  (zmX h.fv.symm h5 (fun g e=>(h.f.lt g e).2)).symm,h.ft,h.fs,zmX h.vt h5 (fun g e=>(h.t.lt g e).2),zmX h.vs h5 (fun g e=>(h.s.lt g e).2),h.ts⟩
theorem TkA.addT (h:TkA lo base w vF vV vT vS fF fV fT fS t) (hs:lo<=w.heap.size) {y:List Iv}(h2:w'.ownsRow base 24 1 v' (fT.length+1) (fT.flatten++f)) (h3:w.grownBy w' vT.ownBlock) (h5:v'.ownBlock=vT.ownBlock\/v'.ownBlock=some w.heap.size) (hn:f.length=1)
  (hR:On lo (fun b=>b<lo) w (fun W=>RB1 W f y)):TkA lo base w' vF vV v' vS fF fV (fT++[f]) fS { t with tubes:=t.tubes++[y] }:=
 have hu:∀g,vT.ownBlock=some g->base<=g:=fun g e=>(h.t.lt g e).1
 ⟨h.f.other hs h3 hu h.ft.symm,h.v.other hs h3 hu h.vt.symm,h.t.next hs h2 h3 hn hR,h.s.other hs h3 hu h.ts,
  h.fv,(zmX h.ft.symm h5 (fun g e=>(h.f.lt g e).2)).symm,h.fs,(zmX h.vt.symm h5 (fun g e=>(h.v.lt g e).2)).symm,h.vs,zmX h.ts h5 (fun g e=>(h.s.lt g e).2)⟩
theorem TkA.addS (h:TkA lo base w vF vV vT vS fF fV fT fS t) (hs:lo<=w.heap.size) {y:Dy}(h2:w'.ownsRow base 41 3 v' (fS.length+1) (fS.flatten++f)) (h3:w.grownBy w' vS.ownBlock) (h5:v'.ownBlock=vS.ownBlock\/v'.ownBlock=some w.heap.size) (hn:f.length=3)
  (hR:On lo (fun b=>b<lo) w (fun W=>RD W f y)):TkA lo base w' vF vV vT v' fF fV fT (fS++[f]) { t with steps:=t.steps++[y] }:=
 have hu:∀g,vS.ownBlock=some g->base<=g:=fun g e=>(h.s.lt g e).1
 ⟨h.f.other hs h3 hu h.fs.symm,h.v.other hs h3 hu h.vs.symm,h.t.other hs h3 hu h.ts.symm,h.s.next hs h2 h3 hn hR,
  h.fv,h.ft,(zmX h.fs.symm h5 (fun g e=>(h.f.lt g e).2)).symm,h.vt,(zmX h.vs.symm h5 (fun g e=>(h.v.lt g e).2)).symm,(zmX h.ts.symm h5 (fun g e=>(h.t.lt g e).2)).symm⟩
theorem TkA.rt (h:TkA lo base w vF vV vT vS fF fV fT fS t) (hs:lo<=w.heap.size):RT w [vF,vV,vT,vS] t:=by
 obtain ⟨A,c,rfl,k1⟩:=h.f.sl hs;obtain ⟨B,d,rfl,k2⟩:=h.v.sl hs;obtain ⟨C,q,rfl,k3⟩:=h.t.sl hs;obtain ⟨S,z,rfl,k4⟩:=h.s.sl hs;exact ⟨A,_,c,B,_,d,C,_,q,S,_,z,rfl,k1,k2,k3,k4⟩
end
section
variable {P:Program}{ops:Array Oper}{Q:Exit->Act->World->Prop}{md:Region.Mode}{S:World->Prop}{N:Nat->Bool}
def zmZ (P:Program) (md:Region.Mode) (ops:Array Oper) (Q:Exit->Act->World->Prop) (S:World->Prop) (N:Nat->Bool):Nat->Array Bool->Act->World->Prop
 | 0,listed,a,w=>Region.ready md ops listed=[]/\Q .normal a w
 | f+1,listed,a,w=>(Region.ready md ops listed=[]->Q .normal a w)/\∀i∈Region.ready md ops listed,wpOp P ops Q i (fun a' w'=>(N i=false->S w')/\zmZ P md ops Q S N f (listed.setIfInBounds i true) a' w') a w
theorem zmk:∀ (f:Nat) (listed:Array Bool) (a:Act) (w:World),zmZ P md ops Q S N f listed a w->wpAny P md ops Q f listed a w
 | 0,_,_,_,h=>h
 | f+1,_,_,_,h=>⟨h.1,fun i hi=>wpOp_mono (fun a' w' h'=>zmk f _ a' w' h'.2) (h.2 i hi)⟩
def zmb (md:Region.Mode) (ops:Array Oper) (j i:Nat):Bool:=(ops[j]?.map fun o=>o.after.any fun e=>Region.binds md e && e.on == i).getD false
theorem zma {j i:Nat}(h:zmb md ops j i=true):∃o,ops[j]? = some o/\∃e∈o.after,Region.binds md e=true/\e.on=i:=by
 unfold zmb at h;cases ho:ops[j]? with
 | none=>rw [ho] at h;cases h
 | some o=>
  rw [ho] at h;obtain ⟨e,he,hb⟩:=Array.any_eq_true'.1 (show (o.after.any fun e=>Region.binds md e && e.on == i)=true from h);simp only [Yi,beq_iff_eq] at hb;exact ⟨o,rfl,e,he,hb.1,hb.2⟩
def Clo (md:Region.Mode) (ops:Array Oper) (listed:Array Bool):Prop:=∀j i,listed.getD j false=true->zmb md ops j i=true->listed.getD i false=true
def zm7 (md:Region.Mode) (ops:Array Oper) (listed:Array Bool):Bool:=(List.range listed.size).all fun j=>!listed.getD j false || match ops[j]? with
 | some o=>o.after.all fun e=>!Region.binds md e || listed.getD e.on false
 | none=>true
theorem zms {listed:Array Bool}(h:zm7 md ops listed=true):Clo md ops listed:=by
 intro j i hj hw;obtain ⟨o,ho,e,he,hb,rfl⟩:=zma hw;have hlt:j<listed.size:=by
  rcases Xk j listed.size with h1 | h1
  ·exact h1
  ·rw [Array.getD_eq_getD_getElem?,Array.getElem?_eq_none h1] at hj;cases hj
 have h1:=List.all_eq_true.1 h j (List.mem_range.2 hlt);rw [hj,ho] at h1;have h2:(o.after.all fun e=>!Region.binds md e || listed.getD e.on false)=true:=h1;have h3:=Array.all_eq_true_iff_forall_mem.1 h2 e he;rw [hb] at h3;exact h3
theorem Clo.set {listed:Array Bool}{k:Nat}(h:Clo md ops listed) (hk:k∈Region.ready md ops listed):Clo md ops (listed.setIfInBounds k true):=by
 intro j i hj hw;by_cases e:k=j
 ·subst e
  obtain ⟨o,ho,e,he,hb,rfl⟩:=zma hw;obtain ⟨_,o',ho',hall⟩:=mem_ready.1 hk;rw [ho] at ho';injection ho' with ho'
  subst ho';exact getD_set_true (hall e he hb)
 ·rw [getD_set_ne false e] at hj
  exact getD_set_true (h j i hj hw)
def zmn (md:Region.Mode) (ops:Array Oper) (i:Nat):Nat->List Nat->Bool
 | j,[]=>zmb md ops j i
 | j,k::p=>zmb md ops j k && zmn md ops i k p
theorem zmg {listed:Array Bool}{i:Nat}(hc:Clo md ops listed):∀ (p:List Nat) (j:Nat),listed.getD j false=true->zmn md ops i j p=true->listed.getD i false=true
 | [],j,hj,h=>hc j i hj h
 | k::p,j,hj,h=>by
  rw [zmn,Yi] at h;exact zmg hc p k (hc j k hj h.1) h.2
theorem zmh {listed:Array Bool}{i:Nat}(hc:Clo md ops listed) {j:Nat}(hj:j∈Region.ready md ops listed) (p:List Nat) (h:zmn md ops i j p=true):listed.getD i false=true:=by
 have key:∀k,zmb md ops j k=true->listed.getD k false=true:=by
  intro k hk;obtain ⟨o,ho,e,he,hb,rfl⟩:=zma hk;obtain ⟨_,o',ho',hall⟩:=mem_ready.1 hj;rw [ho] at ho';injection ho' with ho'
  subst ho';exact hall e he hb
 cases p with
 | nil=>exact key i h
 | cons k p=>
  rw [zmn,Yi] at h;exact zmg hc p k (key k h.1) h.2
theorem zmm {i:Nat}{oi:Oper}{v:Value}(hi:ops[i]? = some oi) (hsel:∀ (j:Nat) (o:Oper) cs b,ops[j]? = some o->o.op ≠ .select cs b)
  (hQ:∀c a w,Q (.panic c) (a.put oi.dst v) w->Q (.panic c) a w) (hN:∀ (listed:Array Bool) (j:Nat),Clo md ops listed->j∈Region.ready md ops listed->N j=true->listed.getD i false=true) :
  ∀ (f:Nat) (listed:Array Bool) (a:Act) (w:World),Clo md ops listed->
   (∀j oj,ops[j]? = some oj->j≠i->listed.getD j true=false->(∀e∈oj.after,Region.binds md e=true->e.on≠i)->oi.apart ops oj=true)->
   i∈Region.ready md ops listed->YieldsIf P ops S oi v a->S w->
   zmZ P md ops Q S N f (listed.setIfInBounds i true) (a.put oi.dst v) w->zmZ P md ops Q S N (f+1) listed a w:=by
 intro f
 induction f with
 | zero=>
  intro listed a w _ _ hr hy hS H;refine ⟨fun h=>(by rw [h] at hr;cases hr),fun j hj=>?_⟩;by_cases hji:j=i
  ·subst hji;exact hy.wpOp hi hS ⟨fun _=>hS,H⟩
  ·have:=ready_mono hj hji
   rw [H.1] at this;cases this
 | succ f ih=>
  intro listed a w hc hfree hr hy hS H;have hun:listed.getD i false=false:=by
   have h0:=(mem_ready.1 hr).1;rcases Xk i listed.size with h' | h'
   ·simp [h'] at h0 ⊢;exact h0
   ·simp [Array.getElem?_eq_none h'] at h0
  refine ⟨fun h=>(by rw [h] at hr;cases hr),fun j hj=>?_⟩;by_cases hji:j=i
  ·subst hji;exact hy.wpOp hi hS ⟨fun _=>hS,H⟩
  ·have h1:=H.2 j (ready_mono hj hji)
   obtain ⟨hjun,oj,hoj,hall⟩:=mem_ready.1 hj;have hNj:N j=false:=by
    cases hn:N j with
    | false=>rfl
    | true=>have:=hN listed j hc hj hn;rw [hun] at this;cases this
   have hnot:∀e∈oj.after,Region.binds md e=true->e.on≠i:=fun e he hb heq=>by
    have h2:=hall e he hb;rw [heq,hun] at h2;cases h2
   have h2:=wpOp_putIf hoj (hfree j oj hoj hji hjun hnot) (fun cs b=>hsel i oi cs b hi) (fun cs b=>hsel j oj cs b hoj) hQ hy h1;have hfree':∀k ok,ops[k]? = some ok->k≠i->(listed.setIfInBounds j true).getD k true=false->
     (∀e∈ok.after,Region.binds md e=true->e.on≠i)->oi.apart ops ok=true:=fun k ok hk hki hk2 hno=>by
    refine hfree k ok hk hki ?_ hno;by_cases hjk:j=k
    ·subst hjk;exact hjun
    ·rw [getD_set_ne true hjk] at hk2;exact hk2
   refine wpOp_mono (fun a' w' h3=>⟨fun _=>h3.2.1 hNj,ih (listed.setIfInBounds j true) a' w' (hc.set hj) hfree' (ready_mono hr (Ne.symm hji)) h3.1 (h3.2.1 hNj) ?_⟩) h2;rw [Array.setIfInBounds_comm _ _ hji];exact h3.2.2
theorem zmU {f i n0:Nat}{ns p:List Nat}{oi:Oper}{v:Value}{listed:Array Bool}{a:Act}{w:World}(hi:ops[i]? = some oi)
  (hs:Region.noSelect ops=true) (hf:Region.free md ops listed i=true) (hr:(Region.ready md ops listed).contains i=true) (hcl:zm7 md ops listed=true)
  (hp:(zmn md ops i n0 p && ns.all fun n=>zmb md ops n n0)=true)
  (hQ:∀c a w,Q (.panic c) (a.put oi.dst v) w->Q (.panic c) a w) (hy:Region.wanted oi (yielded ops a.tmps)=true/\∀w,S w->(execOp a.eval oi).run P w=.ok (.value v) w) (hS:S w)
  (h:zmZ P md ops Q S (fun j=>(n0::ns).contains j) f (listed.setIfInBounds i true) (a.put oi.dst v) w):zmZ P md ops Q S (fun j=>(n0::ns).contains j) (f+1) listed a w:=by
 rw [Yi] at hp;refine zmm hi (Region.noSelect_spec hs) hQ (fun l j hc hj hn=>?_) f listed a w (zms hcl) (Region.free_spec hi hf) (by simpa using hr) (.inl hy) hS h;have hn':j∈n0::ns:=by simpa using hn
 rcases List.mem_cons.1 hn' with rfl | hm
 ·exact zmh hc hj p hp.1
 ·exact zmh hc hj (n0::p) (by rw [zmn,List.all_eq_true.1 hp.2 j hm,hp.1];rfl)
def zmT (P:Program) (md:Region.Mode) (ops:Array Oper) (Q:Exit->Act->World->Prop) (S:World->Prop) (N:Nat->Bool) (f:Nat) (listed:Array Bool) (a:Act) (w:World) (rs:List Nat):Prop:=
 ∀i∈rs,wpOp P ops Q i (fun a' w'=>(N i=false->S w')/\zmZ P md ops Q S N f (listed.setIfInBounds i true) a' w') a w
theorem zmT.nil {f:Nat}{listed:Array Bool}{a:Act}{w:World}:zmT P md ops Q S N f listed a w []:=fun _ h=>by cases h
theorem zmT.cons {f:Nat}{listed:Array Bool}{a:Act}{w:World}{i:Nat}{o:Oper}{rs:List Nat}(ho:ops[i]? = some o)
  (h:∀K':Act->World->Prop,Shut (∀a w,(N i=false->S w)->zmZ P md ops Q S N f (listed.setIfInBounds i true) a w->K' a w)->if Region.wanted o (yielded ops a.tmps)=true then Oper.wp P o a w K' Q else K' (a.put o.dst undef) w)
  (hs:zmT P md ops Q S N f listed a w rs):zmT P md ops Q S N f listed a w (i::rs):=fun j hj=>by
 rcases List.mem_cons.1 hj with rfl | hj
 ·exact wpOp_step ho (fun K' hK=>h K' (fun a w hS hW=>hK a w ⟨hS,hW⟩))
 ·exact hs j hj
theorem zmV {rs:List Nat}{f:Nat}{listed:Array Bool}{a:Act}{w:World}(hr:Region.ready md ops listed=rs) (hne:rs≠[])
  (h:zmT P md ops Q S N f listed a w rs):zmZ P md ops Q S N (f+1) listed a w:=⟨fun h0=>absurd (hr ▸ h0) hne,hr ▸ h⟩
theorem zmi {listed:Array Bool}{a:Act}{w:World}(hr:Region.ready md ops listed=[]) (h:Q .normal a w):∀f,zmZ P md ops Q S N f listed a w
 | 0=>⟨hr,h⟩
 | _+1=>⟨fun _=>h,by rw [hr];simp⟩
theorem tkn {C:World->Prop}{f n0:Nat}{ns:List Nat}{d:Option Tmp}{o:Op}{t:TypeId}{p':String}{af:Array Edge}{gd:Option (Nat×Bool)}{v:Value}{listed:Array Bool}{a:Act}{w:World}(i:Nat) (p:List Nat) (hC:∀w,S w->C w) (hS:S w)
  (h:zmZ P md ops Q S (fun j=>(n0::ns).contains j) f (listed.setIfInBounds i true) (a.put d v) w) (hi:ops[i]? = some ⟨d,o,t,p',af,gd⟩:=by rfl)
  (hs:Region.noSelect ops=true:=by kernel_rfl) (hf:Region.free md ops listed i=true:=by kernel_rfl) (hr:(Region.ready md ops listed).contains i=true:=by kernel_rfl) (hcl:zm7 md ops listed=true:=by kernel_rfl)
  (hp:(zmn md ops i n0 p && ns.all fun n=>zmb md ops n n0)=true:=by kernel_rfl) (hw:Region.wanted ⟨d,o,t,p',af,gd⟩ (yielded ops a.tmps)=true:=by rfl)
  (hv:∀w,C w->(execOp a.eval ⟨d,o,t,p',af,gd⟩).run P w=.ok (.value v) w:=by (intro w hSw; (try dsimp only at hSw);go_simp;try (with_reducible rfl)))
  (hQ:∀c a w,Q (.panic c) (a.put d v) w->Q (.panic c) a w:=by exact fun _ _ _ h=>h):zmZ P md ops Q S (fun j=>(n0::ns).contains j) (f+1) listed a w:=
 zmU hi hs hf hr hcl hp hQ ⟨hw,fun w h=>hv w (hC w h)⟩ hS h
theorem rdn {f:Nat}{d:Option Tmp}{o:Op}{t:TypeId}{p':String}{af:Array Edge}{gd:Option (Nat×Bool)}{listed:Array Bool}{a:Act}{w:World}(i:Nat)
  (h:∀K':Act->World->Prop,Shut (∀a w,(N i=false->S w)->zmZ P md ops Q S N f (listed.setIfInBounds i true) a w->K' a w)->if Region.wanted ⟨d,o,t,p',af,gd⟩ (yielded ops a.tmps)=true then Oper.wp P ⟨d,o,t,p',af,gd⟩ a w K' Q else K' (a.put d undef) w)
  (hi:ops[i]? = some ⟨d,o,t,p',af,gd⟩:=by rfl) (hr:Region.ready md ops listed=[i]:=by kernel_rfl):zmZ P md ops Q S N (f+1) listed a w:=
 zmV hr (by simp) (zmT.cons hi h zmT.nil)
theorem zmj (N:Nat->Bool) (S:World->Prop) {id:Nat}{a:Act}{w:World}(hm:P.follows .mixedOrders=true)
  (h:zmZ P .any ops Q S N ops.size (Array.replicate ops.size false) a w.drew):(Code.region id ops true).wp P Q a w:=wp_region_any hm (zmk _ _ _ _ h)
end
section
variable {P:Program}
theorem zmW {w:World}{ops:Array Oper}{o:Oper}{a:Act}{K:Act->World->Prop}{Q:Exit->Act->World->Prop}{E0:Prop}(hgd:o.guard=none) (s x:Operand) (t:TypeId)
  (ho:o.op=.call { callee:=.builtin .append,args:=#[s,x],argTypes:=#[t,t] })
  (e:TypeId) (k bytes:Nat) (z:Value) (hinfo:(P.info? e).map (fun i=>(i.zero,i.size,i.bytes))=some (some z,k,bytes)) (hz:z.cells.size=k) (hk:0<k) (hby:bytes<=1000) (ht:P.underlying t=some (.slice e))
  (base:Nat) (v:Value) (fs:List (List Value)) (hs:a.eval s=v) (hown:zKf e k w base v fs)
  (ad:Addr) (c:Nat) (f:List Value) (hx:a.eval x=.slice (some ad) 1 c) (hn:f.length=k) (hc:∀ (j:Nat) (u:Value),f[j]? = some u->w.cell? (ad.add j)=some u) (h1:∀u∈f,u.oneCell' = true)
  (hlen:fs.length<=1000000) (hbase:base<=w.heap.size)
  (h:∀v' w',w'.ownsRow base e k v' (fs.length+1) (fs.flatten++f)->w.grownBy w' v.ownBlock->(v'.ownBlock=v.ownBlock\/v'.ownBlock=some w.heap.size)->K (a.put o.dst v') w') :
  if Region.wanted o (yielded ops a.tmps)=true then Oper.wp P o a w K Q else E0:=by
 obtain ⟨i,hi,hz',hsize,hb'⟩:=info_parts hinfo;have hw:Region.wanted o (yielded ops a.tmps)=true:=by simp [Region.wanted,hgd]
 rw [if_pos hw];obtain ⟨v',w',hr,h2,h3,_,h5⟩:=run_append_own_at (P:=P) w base t o.type e i z k bytes ht hi hz' hsize hb' hz hk v fs.length fs.flatten hown.own ad 1 c f (by omega) hc h1 (by simp only [maxLen];omega) (Yq (Nat.mul_le_mul (show fs.length+1<=1000001 by omega) hby) (by omega)) hbase;unfold Oper.wp execOp;simp only [ho,resolve,invoke,builtin,Sem.run_bind,Sem.run_pure,Result.andThen_ok,List.map_toArray,List.map_cons,List.map_nil,hs,hx,hr];exact h v' w' h2 h3 h5
end
def Nb (g:Nat) (F V T U:Value):Prop:=F.ownBlock≠some g/\V.ownBlock≠some g/\T.ownBlock≠some g/\U.ownBlock≠some g
structure Bt (lo:Nat) (w:World) (g:Nat) (t:TypeId) (cs:Array Value) (F V T U:Value):Prop where
 blk:Blk w g t cs
 le:lo<=g
 nb:Nb g F V T U
section
variable {lo base g:Nat}{w w':World}{t:TypeId}{cs:Array Value}{F V T U v':Value}
theorem Bt.alloc (h:Bt lo w g t cs F V T U) (o:Obj):Bt lo (w.alloc o) g t cs F V T U:=⟨h.blk.next (zAE _ _),h.le,h.nb⟩
theorem zmu {v:Value}{g n:Nat}(h5:v'.ownBlock=v.ownBlock\/v'.ownBlock=some n) (h:v.ownBlock≠some g) (hg:g<n):v'.ownBlock≠some g:=by
 rcases h5 with h5 | h5
 ·rw [h5];exact h
 ·rw [h5];intro e;injection e with e;omega
theorem Bt.grow (h:Bt lo w g t cs F V T U) {v:Value}(h3:w.grownBy w' v.ownBlock) (hv:v.ownBlock≠some g):Blk w' g t cs:=(h3.block g h.blk.lt (fun e=>hv e.symm)).trans h.blk
theorem Bt.addF (h:Bt lo w g t cs F V T U) (h3:w.grownBy w' F.ownBlock) (h5:v'.ownBlock=F.ownBlock\/v'.ownBlock=some w.heap.size):Bt lo w' g t cs v' V T U:=⟨h.grow h3 h.nb.1,h.le,zmu h5 h.nb.1 h.blk.lt,h.nb.2⟩
theorem Bt.addV (h:Bt lo w g t cs F V T U) (h3:w.grownBy w' V.ownBlock) (h5:v'.ownBlock=V.ownBlock\/v'.ownBlock=some w.heap.size):Bt lo w' g t cs F v' T U:=⟨h.grow h3 h.nb.2.1,h.le,h.nb.1,zmu h5 h.nb.2.1 h.blk.lt,h.nb.2.2⟩
theorem Bt.addT (h:Bt lo w g t cs F V T U) (h3:w.grownBy w' T.ownBlock) (h5:v'.ownBlock=T.ownBlock\/v'.ownBlock=some w.heap.size):Bt lo w' g t cs F V v' U:=⟨h.grow h3 h.nb.2.2.1,h.le,h.nb.1,h.nb.2.1,zmu h5 h.nb.2.2.1 h.blk.lt,h.nb.2.2.2⟩
theorem Bt.addS (h:Bt lo w g t cs F V T U) (h3:w.grownBy w' U.ownBlock) (h5:v'.ownBlock=U.ownBlock\/v'.ownBlock=some w.heap.size):Bt lo w' g t cs F V T v':=⟨h.grow h3 h.nb.2.2.2,h.le,h.nb.1,h.nb.2.1,h.nb.2.2.1,zmu h5 h.nb.2.2.2 h.blk.lt⟩
theorem TkA.new {fF fV fT fS:List (List Value)}{tr:Tk}(h:TkA lo base w F V T U fF fV fT fS tr) (hs:lo<=w.heap.size) (t:TypeId) (cs:Array Value):Bt lo (w.alloc (.cells cs t)) w.heap.size t cs F V T U:=
 ⟨Blk.new _ _ _,hs,fun e=>Nat.lt_irrefl _ (h.f.lt _ e).2,fun e=>Nat.lt_irrefl _ (h.v.lt _ e).2,fun e=>Nat.lt_irrefl _ (h.t.lt _ e).2,fun e=>Nat.lt_irrefl _ (h.s.lt _ e).2⟩
end
end Go.Proofs.YtchkfjgcbbbffaaGreatDoor
end
