/- Bundle 4: what the law's walk stands on: E4, M6, E5, E6, E3, M7, M8, M9, Var, C1, K1. -/
import Derived.Deep.Slices
import Derived.Deep.Strs
import Derived.Test.YtchkfjgcbbbffaaGreatDoorZ1
import Derived.Test.YtchkfjgcbbbffaaGreatDoorZ2
import Derived.Test.YtchkfjgcbbbffaaGreatDoorZ3
set_option maxRecDepth 100000
set_option maxHeartbeats 20000000
set_option linter.all false
noncomputable section
namespace Go.Proofs.YtchkfjgcbbbffaaGreatDoor
open Go.RowKit Pl Go.Shelf
def zHI (d d':Dy):Dy×Int:=if vld d=true/\vld d' = true then zGM d (zEL d') else (zAZ,1)
theorem zJE {d:Dy}(hv:vld d=true):vld (zEL d)=true:=by
 unfold zEL
 split
 ·rename_i h
  unfold vld at hv ⊢;simp only [Xa] at hv ⊢;rcases hv with h' | h'
  ·exact absurd h'.1 h.2
  ·exact .inr h'
 ·rfl
theorem zI7 (neg neg':Bool) (A B:Option Addr) (n c m d:Nat) (l l':List Nat) (x x':Int) (w:World) (h:SL w A n c l) (h':SL w B m d l') (ht:zBx w) (hn:n<=1000000) (hm:m<=1000000) :
  Calls Tryz.prog 52 #[.agg #[.bool neg,.slice A n c,.int .i64 x],.agg #[.bool neg',.slice B m d,.int .i64 x']] w
   (zJI (zHI ⟨neg,l,x⟩ ⟨neg',l',x'⟩).1 (zHI ⟨neg,l,x⟩ ⟨neg',l',x'⟩).2 w):=by
 have HA:Hid (zHI ⟨neg,l,x⟩ ⟨neg',l',x'⟩=if vld ⟨neg,l,x⟩=true/\vld ⟨neg',l',x'⟩=true then zGM ⟨neg,l,x⟩ (zEL ⟨neg',l',x'⟩) else (zAZ,1)):=rfl;generalize zHI ⟨neg,l,x⟩ ⟨neg',l',x'⟩=r at *;obtain ⟨⟨nn,nl,ne⟩,hnd⟩:∃d,d=zEL ⟨neg',l',x'⟩:=⟨_,rfl⟩;have HND:=Zh hnd;have HVN:Hid (vld ⟨neg',l',x'⟩=true->vld ⟨nn,nl,ne⟩=true):=fun hv'=>by rw [hnd];exact zJE hv'
 rw [<- hnd] at HA;clear hnd;have HS:Hid (vld ⟨neg,l,x⟩=true->vld ⟨nn,nl,ne⟩=true->∀W AA nA cA,SL W A n c l->SL W AA nA cA nl->zBx W->Calls Tryz.prog 110 #[.agg #[.bool neg,.slice A n c,.int .i64 x],.agg #[.bool nn,.slice AA nA cA,.int .i64 ne]] W
   (zJI (zGM ⟨neg,l,x⟩ ⟨nn,nl,ne⟩).1 (zGM ⟨neg,l,x⟩ ⟨nn,nl,ne⟩).2 W)):=fun hv hv' W AA nA cA h1 h2 h3=>zPQ neg nn A AA n c nA cA l nl x ne W h1 h2 h3 hv hv'
 generalize zGM ⟨neg,l,x⟩ ⟨nn,nl,ne⟩=sd at *;obtain ⟨k1,k2,k3,k4,k5⟩:=zNO w 41 #[.bool neg,.slice A n c,.int .i64 x] #[.bool neg',.slice B m d,.int .i64 x'] #[.bool false,.slice none 0 0,.int .i64 0];have h1:=h.below k5;have h1':=h'.below k5;have HT:=Zh (ht.next k5);clear ht;generalize hv:vld ⟨neg,l,x⟩=v at *;generalize hv':vld ⟨neg',l',x'⟩=v' at *;have HV:=Zh hv;have HV':=Zh hv';clear hv hv';go_enter Tryz.func52,Tryz.ntmps52
 go_wp2_with fail
 generalize ((w.alloc (.cells #[.bool neg,.slice A n c,.int .i64 x] 41)).alloc (.cells #[.bool neg',.slice B m d,.int .i64 x'] 41)).alloc (.cells #[.bool false,.slice none 0 0,.int .i64 0] 41)=W0 at *;refine (zA4 neg A n c l x _ h1 (by omega)).mono ?_;rintro e w1 ⟨rfl,hb1⟩
 rw [HV.out];have j1:=k1.below hb1 (by omega);have j2:=k2.below hb1 (by omega);have j3:=k3.below hb1 (by omega);have hz1:w.heap.size+3<=w1.heap.size:=by have:=hb1.size;omega
 have h2:=h1.below hb1;have h2':=h1'.below hb1;have HT1:=Zh (HT.out.next hb1);have hbw:=zAA k5 hb1;obtain ⟨s0,s1,s2⟩:=j1.cells3;obtain ⟨t0,t1,t2⟩:=j2.cells3;obtain ⟨r0,r1,r2⟩:=j3.cells3;have f0:=j3.frozen 0;have f1:=j3.frozen 1;have f2:=j3.frozen 2;clear k1 k2 k3 k4 h1 h1' HT hb1;cases v
 ·have hr:r=(zAZ,1):=by rw [HA.out];simp
  subst hr;clear HA HS;go_wp2_with fail
  refine Yn (zBI Tryz.results52 rfl (j3.set3 _ _ _)) rfl ?_;exact ⟨none,0,0,rfl,SL.nil _,zAn.zero,zAG hbw (by omega) _ _ _⟩
 ·go_wp2_with fail
  refine (zA4 neg' B m d l' x' _ h2' (by omega)).mono ?_;rintro e w2 ⟨rfl,hb2⟩
  rw [HV'.out];have i1:=j1.below hb2 (by omega);have i2:=j2.below hb2 (by omega);have i3:=j3.below hb2 (by omega);have hz2:w.heap.size+3<=w2.heap.size:=by have:=hb2.size;omega
  have h3:=h2.below hb2;have h3':=h2'.below hb2;have HT2:=Zh (HT1.out.next hb2);have hbw2:=zAA hbw hb2;clear s0 s1 s2 t0 t1 t2 r0 r1 r2 f0 f1 f2 j1 j2 j3 h2 h2' HT1 hb2 hbw hz1;obtain ⟨s0,s1,s2⟩:=i1.cells3;obtain ⟨t0,t1,t2⟩:=i2.cells3;obtain ⟨r0,r1,r2⟩:=i3.cells3;have f0:=i3.frozen 0;have f1:=i3.frozen 1;have f2:=i3.frozen 2;cases v'
  ·have hr:r=(zAZ,1):=by rw [HA.out];simp
   subst hr;clear HA HS;go_wp2_with fail
   refine Yn (zBI Tryz.results52 rfl (i3.set3 _ _ _)) rfl ?_;exact ⟨none,0,0,rfl,SL.nil _,zAn.zero,zAG hbw2 (by omega) _ _ _⟩
  ·have hr:r=sd:=by rw [HA.out];simp
   subst hr;clear HA;have hg0:w.heap.size<w2.drew.heap.size:=i1.lt;have hg1:w.heap.size+1<w2.drew.heap.size:=i2.lt;have hg2:w.heap.size+2<w2.drew.heap.size:=i3.lt;clear r0 r1 r2 f0 f1 f2;go_wp2_with fail
   go_region_held3 (fun W=>W.cell? ⟨w.heap.size,0,none⟩=some (.bool neg)/\W.cell? ⟨w.heap.size,1,none⟩=some (.slice A n c)/\W.cell? ⟨w.heap.size,2,none⟩=some (.int .i64 x)/\W.cell? ⟨w.heap.size+1,0,none⟩=some (.bool neg')/\W.cell? ⟨w.heap.size+1,1,none⟩=some (.slice B m d)/\W.cell? ⟨w.heap.size+1,2,none⟩=some (.int .i64 x'))
    (first | exact ⟨s0,s1,s2,t0,t1,t2⟩ | exact zCn hbA hg0 hg1 ⟨s0,s1,s2,t0,t1,t2⟩ | exact zCn hbB hg0 hg1 ⟨s0,s1,s2,t0,t1,t2⟩ | exact zCn (zAG (B:=w.heap.size+2) (Yp _ _) (Ya _) _ _ _) (by omega) (by omega) (zCn hbB hg0 hg1 ⟨s0,s1,s2,t0,t1,t2⟩))
    (first
     | (go_at_call 111; (refine (zL2 neg' B m d l' x' _ h3'.drew (by omega)).mono ?_);rw [<- HND.out];rintro e wA ⟨AA,nA,cA,rfl,hsA,hfA,hbA⟩)
     | (go_at_call 110; (refine (HS.out (by simp) (HVN.out (by simp)) _ AA nA cA (h3.drew.below hbA) hsA ((show zBx w2.drew from HT2.out).next hbA)).mono ?_);rintro e w3 ⟨A3,n3,c3,rfl,hs3,hf3,hb3⟩;have hbB:=zAA hbA hb3;have g3:=i3.drew.below hbB hg2;obtain ⟨v0,v1,v2⟩:=g3.cells3;have e0:=g3.frozen 0;have e1:=g3.frozen 1;have e2:=g3.frozen 2))
   have hz3:w.heap.size+3<=wA.heap.size:=by have:=hbA.size;simp at this;omega
   go_wp2_with fail
   refine Yn (zBI Tryz.results52 rfl (g3.set3 _ _ _)) rfl ?_;exact ⟨A3,n3,c3,rfl,(((hs3.far hf3 (by omega) 0 _).far hf3 (by omega) 1 _).far hf3 (by omega) 2 _),hf3.mono (by omega),zAG (zAA (zAR hbw2 1) hbB) (by omega) _ _ _⟩
def zIF (d:Dy) (k:Int):Dy×Int:=if vld d=true/\zNP k=true then zAu d.neg (val d.l) (d.e+k) else (zAZ,1)
theorem zNA (neg:Bool) (A:Option Addr) (n c:Nat) (l:List Nat) (x k:Int) (w:World) (h:SL w A n c l) (ht:zBx w) (hn:n<=1000000) :
  Calls Tryz.prog 211 #[.agg #[.bool neg,.slice A n c,.int .i64 x],.int .i64 k] w (zJI (zIF ⟨neg,l,x⟩ k).1 (zIF ⟨neg,l,x⟩ k).2 w):=by
 have HA:Hid (zIF ⟨neg,l,x⟩ k=if vld ⟨neg,l,x⟩=true/\zNP k=true then zAu neg (val l) (x+k) else (zAZ,1)):=rfl;generalize zIF ⟨neg,l,x⟩ k=r at *;have k1:=(Blk.new w 41 #[.bool neg,.slice A n c,.int .i64 x]).alloc (.cells #[.bool false,.slice none 0 0,.int .i64 0] 41);have k3:=Blk.newAt (w.alloc (.cells #[.bool neg,.slice A n c,.int .i64 x] 41)) 41 #[.bool false,.slice none 0 0,.int .i64 0] (g:=w.heap.size+1) (by simp);have k5:=(zAE w (.cells #[.bool neg,.slice A n c,.int .i64 x] 41)).alloc (by simp) (.cells #[.bool false,.slice none 0 0,.int .i64 0] 41);have h1:=h.below k5;have HT:=Zh (ht.next k5);have HVB:Hid (vld ⟨neg,l,x⟩=true->n<=256/\-16384<=x/\x<=16384):=fun hv=>zHM h hv
 clear ht;generalize hv:vld ⟨neg,l,x⟩=v at *;have HV:=Zh hv;clear hv;go_enter Tryz.func211,Tryz.ntmps211
 go_wp2_with fail
 generalize (w.alloc (.cells #[.bool neg,.slice A n c,.int .i64 x] 41)).alloc (.cells #[.bool false,.slice none 0 0,.int .i64 0] 41)=W0 at *;refine (zA4 neg A n c l x _ h1 (by omega)).mono ?_;rintro e w1 ⟨rfl,hb1⟩
 rw [HV.out];have j1:=k1.below hb1 k1.lt;have j3:=k3.below hb1 k3.lt;have hz1:w.heap.size+2<=w1.heap.size:=j3.lt;have h2:=h1.below hb1;have HT1:=Zh (HT.out.next hb1);have hbw:=zAA k5 hb1;obtain ⟨s0,s1,s2⟩:=j1.cells3;obtain ⟨r0,r1,r2⟩:=j3.cells3;have f0:=j3.frozen 0;have f1:=j3.frozen 1;have f2:=j3.frozen 2;clear k1 k3 h1 HT hb1;cases v
 ·have hr:r=(zAZ,1):=by rw [HA.out];simp
  subst hr;clear HA;go_wp2_with fail
  refine Yn (zBI Tryz.results211 rfl (j3.set3 _ _ _)) rfl ?_;exact ⟨none,0,0,rfl,SL.nil _,zAn.zero,zAG hbw (by omega) _ _ _⟩
 ·go_wp2_with fail
  refine (zFu k _).mono ?_;rintro e w' ⟨rfl,rfl⟩
  cases hk:zNP k
  ·have hr:r=(zAZ,1):=by rw [HA.out,hk];simp
   subst hr;clear HA;go_wp2_with fail
   refine Yn (zBI Tryz.results211 rfl (j3.set3 _ _ _)) rfl ?_;exact ⟨none,0,0,rfl,SL.nil _,zAn.zero,zAG hbw (by omega) _ _ _⟩
  ·have hkb:-32768<=k/\k<=32768:=by simpa [zNP] using hk
   obtain ⟨hk1,hk2⟩:=hkb;obtain ⟨hn256,hx1,hx2⟩:=HVB.out (by simp);have hr:r=zAu neg (val l) (x+k):=by rw [HA.out,hk];simp
   have HR:=Zh hr;clear HA hk hr;have hw:IntKind.i64.wrap (x+k)=x+k:=IntWalk.i64_in _ (by omega);go_wp2_with fail
   first | (refine (zAi neg A n c l (x+k) _ h2 hn256 (by omega) (by omega) HT1.out).mono ?_) | (rw [hw];refine (zAi neg A n c l (x+k) _ h2 hn256 (by omega) (by omega) HT1.out).mono ?_)
   rintro e w2 ⟨A1,n1,c1,rfl,hs1,hf1,hb2⟩
   have hn1:n1<=256:=by
    rw [<- hs1.len];unfold zAN
    split
    ·simp [zAZ]
    ·exact zCR h.lt (by rw [h.len];exact hn256) (Nat.div_le_self _ _)
   have HD:Hid (r=if inR (val (zAN neg (val l) (x+k)).l) (zAN neg (val l) (x+k)).e=true then (zAN neg (val l) (x+k),0) else (zAZ,9)):=HR.out;generalize hd:zAN neg (val l) (x+k)=d at *;clear hd HR;have hbw2:=zAA hbw hb2;have i3:=j3.below hb2 j3.lt;clear hw s0 s1 s2 r0 r1 r2 f0 f1 f2;by_cases hr:inR (val d.l) d.e=true
   ·have hrr:r=(d,0):=by rw [HD.out,if_pos hr]
    subst hrr;go_wp2_with fail
    refine (zBf d.neg A1 n1 c1 d.l d.e _ hs1 (by omega) hr).mono ?_;rintro e w3 ⟨rfl,hb3⟩
    have HRR:=Zh hr;clear hr HD;have g3:=i3.below hb3 i3.lt;obtain ⟨v0,v1,v2⟩:=g3.cells3;have e0:=g3.frozen 0;have e1:=g3.frozen 1;have e2:=g3.frozen 2;have hf1':zAn (w.heap.size+2) A1 n1:=hf1.mono hz1;go_wp2_with fail
    refine Yn (zBI Tryz.results211 rfl (g3.set3 _ _ _)) rfl ?_;exact ⟨A1,n1,c1,rfl,((((hs1.below hb3).far hf1' (by omega) 0 _).far hf1' (by omega) 1 _).far hf1' (by omega) 2 _),hf1.mono (by omega),zAG (zAA hbw2 hb3) (by omega) _ _ _⟩
   ·have hrr:r=(zAZ,9):=by rw [HD.out,if_neg hr]
    subst hrr;go_wp2_with fail
    refine (zBJ d.neg A1 n1 c1 d.l d.e _ hs1 (by omega) (by simpa using hr)).mono ?_;rintro e w3 ⟨rfl,hb3⟩
    have HRR:=Zh hr;clear hr HD;have g3:=i3.below hb3 i3.lt;have hz2:w.heap.size+2<=w2.heap.size:=i3.lt;obtain ⟨v0,v1,v2⟩:=g3.cells3;have e0:=g3.frozen 0;have e1:=g3.frozen 1;have e2:=g3.frozen 2;go_wp2_with fail
    refine Yn (zBI Tryz.results211 rfl (g3.set3 _ _ _)) rfl ?_;exact ⟨none,0,0,rfl,SL.nil _,zAn.zero,zAG (zAA hbw2 hb3) (by omega) _ _ _⟩
end Go.Proofs.YtchkfjgcbbbffaaGreatDoor
namespace Go.Proofs.YtchkfjgcbbbffaaGreatDoor.Pl
theorem zPa (L:List Nat) (i z y:Nat) (h:L[i]? = some z):val (L.set i y)+4294967296^i*z=val L+4294967296^i*y:=by
 induction L generalizing i with
 | nil=>simp at h
 | cons a t ih=>
  cases i with
  | zero=>
   simp at h;subst h;simp [val];omega
  | succ i=>
   have:=ih i (by simpa using h);simp only [List.set_cons_succ,val,Xi];have e1:4294967296^i*4294967296*z=4294967296*(4294967296^i*z):=by rw [Nat.mul_comm (4294967296^i),Yz]
   have e2:4294967296^i*4294967296*y=4294967296*(4294967296^i*y):=by rw [Nat.mul_comm (4294967296^i),Yz]
   rw [e1,e2];omega
theorem zAV.set {L:List Nat}(h:zAV L) (i:Nat) {y:Nat}(hy:y<4294967296):zAV (L.set i y):=fun x hx=>by
 rcases List.mem_or_eq_of_mem_set hx with h' | h'
 ·exact h x h'
 ·omega
structure Mul (N i m k cy V x:Nat) (b L:List Nat):Prop where
 len:L.length=N
 lim:zAV L
 sum:val L+4294967296^(i+k)*cy=V+4294967296^i*(x*val (b.take k))
 zero:∀j,i+m<=j->j<N->L[j]? = some 0
theorem zJ0 {x y z c:Nat}(hx:x<4294967296) (hy:y<4294967296) (hz:z<4294967296) (hc:c<4294967296):x*y+z+c<18446744073709551616:=by
 have:x*y<=4294967295*4294967295:=Nat.mul_le_mul (by omega) (by omega);omega
theorem Mul.step {N i m k cy V x:Nat}{b L:List Nat}(h:Mul N i m k cy V x b L) (hk:k<m) {y z:Nat}(hy:b[k]? = some y) (hz:L[i+k]? = some z) (hx:x<4294967296) (hyl:y<4294967296) (hc:cy<4294967296) :
  Mul N i m (k+1) ((x*y+z+cy) / 4294967296) V x b (L.set (i+k) ((x*y+z+cy)%4294967296))/\(x*y+z+cy) / 4294967296<4294967296:=by
 have hzl:=h.lim.get hz;have hb:=zJ0 hx hyl hzl hc;refine ⟨⟨by simp [h.len],h.lim.set _ (Nat.mod_lt _ (by omega)),?_,fun j h1 h2=>?_⟩,by omega⟩
 ·have e:=zPa L (i+k) z ((x*y+z+cy)%4294967296) hz
  have s:=h.sum;rw [zBi b k y hy,Nat.mul_add,Nat.mul_add,<- Nat.add_assoc,<- Nat.add_assoc];have e3:4294967296^i*(x*(4294967296^k*y))=4294967296^(i+k)*(x*y):=by
   rw [Nat.pow_add,Nat.mul_left_comm x,Yz]
  rw [e3,<- s,Xi];generalize 4294967296^(i+k)=P at *;have d:=Nat.div_add_mod (x*y+z+cy) 4294967296;generalize (x*y+z+cy) / 4294967296=q at *;generalize (x*y+z+cy)%4294967296=r at *;have e4:P*4294967296*q=P*(4294967296*q):=Yz _ _ _;rw [e4];have e5:P*(4294967296*q)+P*r=P*(x*y)+P*z+P*cy:=by rw [<- Nat.mul_add,d,Nat.mul_add,Nat.mul_add]
  omega
 ·rw [List.getElem?_set_ne (by omega)]
  exact h.zero j h1 h2
theorem Mul.done {N i m cy V x:Nat}{a b L:List Nat}(h:Mul N i m m cy V x b L) (hb:b.length=m) (hi:i+m<N) (hx:a[i]? = some x) (hV:V=val (a.take i)*val b) (hc:cy<4294967296) :
  (L.set (i+m) cy).length=N/\zAV (L.set (i+m) cy)/\val (L.set (i+m) cy)=val (a.take (i+1))*val b/\∀j,i+1+m<=j->j<N->(L.set (i+m) cy)[j]? = some 0:=by
 refine ⟨by simp [h.len],h.lim.set _ hc,?_,fun j h1 h2=>?_⟩
 ·have e:=zPa L (i+m) 0 cy (h.zero (i+m) (Ya _) hi)
  have s:=h.sum;rw [Xd (by omega)] at s;rw [zBi a i x hx,Nat.add_mul,<- hV,Yz,<- s];omega
 ·rw [List.getElem?_set_ne (by omega)]
  exact h.zero j (by omega) h2
end Go.Proofs.YtchkfjgcbbbffaaGreatDoor.Pl
namespace Go.Proofs.YtchkfjgcbbbffaaGreatDoor
open Go.RowKit Pl Go.Shelf
theorem zSj (A B:Option Addr) (n c m d:Nat) (l l':List Nat) (w:World) (h:SL w A n c l) (h':SL w B m d l') (hn:n<=1000000) (hm:m<=1000000) :
  Calls Tryz.prog 374 #[.slice A n c,.slice B m d] w (zR1 (val l*val l') 2000000 w):=by
 have hcap:=h.cap;have hcap':=h'.cap;have hmax:=h.max;have hmax':=h'.max;have HL:=Zh h.len;have HL':=Zh h'.len;go_enter Tryz.func374,Tryz.ntmps374
 go_wp2_with (at_make;refine zCl rfl (.tmp 16) (.tmp 16) _ 109 rfl zAw Tryz.underlying39 .i64 .i64 _ _ (n+m) (n+m) rfl rfl (by omega) (by omega) (Ya _) (by omega) ?_;intro w1 hr1 hb1 hs1)
 generalize hNM:n+m=N at *
 go_loopw [20] (fun i wr=>∃ (j:Nat) (L:List Nat),j<=n/\i=.int .i64 j/\Hid (L.length=N/\zAV L/\val L=val (l.take j)*val l'/\∀q,j+m<=q->q<N->L[q]? = some 0)/\Row wr w.heap.size 109 L/\Below w.heap.size w wr) (fun i _=>n - (intOf i).toNat)
 case atStart=>exact ⟨0,List.replicate N 0,Nat.zero_le _,rfl,⟨by simp,zCh _,by simp [zDR,val],fun q _ hq=>by simp [hq]⟩,hr1,hb1⟩
 case round=>
  obtain ⟨i,L,hi,rfl,HI,hr,hb⟩:=hrel;by_cases hlt:i<n
  ·obtain ⟨b,off,x,rfl,hxb,hx,hcell,hxlt⟩:=(h.below hb).get hlt
   have HX:=Zh hx;clear hx;obtain ⟨V,hV⟩:∃V,V=val (l.take i)*val l':=⟨_,rfl⟩;have HV:=Zh hV;clear hV;go_wp2_with fail
   go_loopw [8,27] (fun cv k wr=>∃ (j cy:Nat) (L:List Nat),j<=m/\k=.int .i64 j/\cv=.int .u64 (cy:Int)/\cy<4294967296/\Hid (Mul N i m j cy V x l' L)/\Row wr w.heap.size 109 L/\Below w.heap.size w wr) (fun _ k _=>m - (intOf k).toNat)
   case atStart=>
    exact ⟨0,0,L,Nat.zero_le _,rfl,rfl,by omega,⟨HI.out.1,HI.out.2.1,by rw [HI.out.2.2.1,HV.out];simp [val],HI.out.2.2.2⟩,hr,hb⟩
   case round=>
    obtain ⟨k,cy,L,hk,rfl,rfl,hcy,HM,hr,hb⟩:=hrel;by_cases hlk:k<m
    ·obtain ⟨b',off',y,rfl,hyb,hy,hcelly,hylt⟩:=(h'.below hb).get hlk
     have HY:=Zh hy;clear hy;have hik:i+k<L.length:=by rw [HM.out.len];omega
     obtain ⟨z,hz⟩:∃z,L[i+k]? = some z:=⟨_,Yo hik⟩;have hoc:=hr.cell hz;have hof:=Blk.frozen hr (i+k);have hzl:=HM.out.lim.get hz;have HST:=Zh (HM.out.step hlk HY.out hz hxlt hylt hcy);have hbd:=zJ0 hxlt hylt hzl hcy;clear hik hz;obtain ⟨p,hp⟩:∃p:Nat,x*y=p:=⟨_,rfl⟩;have hpi:(x:Int)*(y:Int)=(p:Int):=by rw [<- hp];simp
     rw [hp] at hbd;have HP:=Zh hp;clear hp;go_wp2_with fail
     go_roundw
     case rel=>
      have e1:((p:Int)+(z:Int)+(cy:Int))%4294967296=(((p+z+cy)%4294967296:Nat):Int):=by omega
      have e2:((p:Int)+(z:Int)+(cy:Int)) / 4294967296=(((p+z+cy) / 4294967296:Nat):Int):=by omega
      have hst:=HST.out;rw [HP.out] at hst;rw [e1,e2];exact ⟨k+1,_,_,by omega,by go_num,rfl,hst.2,hst.1,hr.set_ _ _,hb.setCell (p:=⟨w.heap.size,i+k,none⟩) (Ya _) _⟩
     case measure=>simp [intOf];omega
    ·obtain rfl:k=m:=by omega
     have hz:=HM.out.zero (i+k) (Ya _) (by omega);have hoc:=hr.cell hz;have hof:=Blk.frozen hr (i+k);have HD:=Zh (HM.out.done HL'.out (by omega) HX.out HV.out hcy);clear hz;go_wp2_with fail
     go_roundw
     case rel=>exact ⟨i+1,L.set (i+k) cy,by omega,by go_num,HD.out,hr.set_ _ _,hb.setCell (p:=⟨w.heap.size,i+k,none⟩) (Ya _) _⟩
     case measure=>simp [intOf];omega
  ·obtain rfl:i=n:=by omega
   go_wp2_with fail
   go_ret;obtain ⟨e1,e2,e3,-⟩:=HI.out;rw [Xd (by rw [HL.out];exact Ya _)] at e3;exact ⟨_,_,_,_,rfl,hr.sl e2 e1 (by omega),e3,by omega,fun _=>⟨_,rfl,Ya _⟩,hb⟩
theorem zRA (A B:Option Addr) (n c m d:Nat) (l l':List Nat) (w:World) (h:SL w A n c l) (h':SL w B m d l') (hn:n<=256) (hm:m<=256) (hs:(zAa (val l*val l')).length<=256) :
  Calls Tryz.prog 330 #[.slice A n c,.slice B m d] w (zTf (zAa (val l*val l')) w):=by
 have hw:=h.alloc (.cells #[.slice A n c,.slice B m d] 39);have hw':=h'.alloc (.cells #[.slice A n c,.slice B m d] 39);have hlb:decide (256<n\/256<m)=false:=by simp;omega
 have HLB:=Zh hlb;clear hlb;have t1:=hw.trim;have t2:=hw'.trim;have u1:(zAa (val l)).length<=256:=Yq (zAl l h.lt) (by rw [h.len];exact hn);have u2:(zAa (val l')).length<=256:=Yq (zAl l' h'.lt) (by rw [h'.len];exact hm);go_enter Tryz.func330,Tryz.ntmps330
 go_wp2_with fail
 refine (zIr _ A B n c m d _ (by simp) (by simp)).mono ?_;rintro e w' ⟨rfl,rfl⟩
 rw [HLB.out];go_wp2_with fail
 refine (zBU A n c l _ hw).mono ?_;rintro e w' ⟨rfl,rfl⟩
 go_wp2_with fail
 refine (zBU B m d l' _ hw').mono ?_;rintro e w' ⟨rfl,rfl⟩
 go_wp2_with fail
 refine (zSj A B _ c _ d _ _ _ t1 t2 (by omega) (by omega)).mono ?_;rw [zAH,zAH];rintro e w' ⟨A1,n1,c1,l1,rfl,hs1,hv1,_,hf1,hb1⟩
 have hb:Below w.heap.size w w':=zAA (zAE _ _) hb1;have HV:=Zh hv1;clear hv1;have h256':(zAa (val l1)).length<=256:=by rw [HV.out];exact hs
 clear hs;go_wp2_with fail
 refine (zGi A1 n1 c1 l1 _ hs1 h256').mono ?_;rintro e w2 ⟨rfl,hb2⟩
 go_wp2_with fail
 go_ret2
 have hl1:=zAl l1 hs1.lt;have hl2:=hs1.len;rw [<- HV.out];exact ⟨_,_,_,rfl,(hs1.trim.clip).below hb2,(hf1.mono (by simp)).less (by omega),zAA hb hb2⟩
def zUR (d d':Dy):Dy×Int:=if vld d=true/\vld d' = true then zAu (d.neg != d'.neg) (val d.l*val d'.l) (d.e+d'.e) else (zAZ,1)
theorem zPt {v u:Nat}(hv:0<v) (hu:0<u):zAT v+zAT u<=zAT (v*u)+1/\zAT (v*u)<=zAT v+zAT u:=by
 have p1:=zCS v hv;have p2:=zCS u hu;constructor
 ·have h1:=Nat.mul_le_mul (zDL v hv) (zDL u hu)
  rw [<- Nat.pow_add] at h1;have:=zC8 _ _ h1;omega
 ·refine zBH _ _ ?_
  rw [Nat.pow_add];exact Nat.mul_lt_mul'' (zBu v) (zBu u)
theorem zQU (neg neg':Bool) (A B:Option Addr) (n c m d:Nat) (l l':List Nat) (x x':Int) (w:World) (h:SL w A n c l) (h':SL w B m d l') (ht:zBx w) (hn:n<=1000000) (hm:m<=1000000) :
  Calls Tryz.prog 280 #[.agg #[.bool neg,.slice A n c,.int .i64 x],.agg #[.bool neg',.slice B m d,.int .i64 x']] w
   (zJI (zUR ⟨neg,l,x⟩ ⟨neg',l',x'⟩).1 (zUR ⟨neg,l,x⟩ ⟨neg',l',x'⟩).2 w):=by
 have HA:Hid (zUR ⟨neg,l,x⟩ ⟨neg',l',x'⟩=if vld ⟨neg,l,x⟩=true/\vld ⟨neg',l',x'⟩=true then zAu (neg != neg') (val l*val l') (x+x') else (zAZ,1)):=rfl;generalize zUR ⟨neg,l,x⟩ ⟨neg',l',x'⟩=r at *;have HVB:Hid (vld ⟨neg,l,x⟩=true->n<=256/\-16384<=x/\x<=16384):=fun hv=>zHM h hv
 have HVB':Hid (vld ⟨neg',l',x'⟩=true->m<=256/\-16384<=x'/\x' <= 16384):=fun hv=>zHM h' hv
 have HVO:Hid (vld ⟨neg,l,x⟩=true->n≠0->val l%2=1):=fun hv hn=>(zAU hv ((zAL h).2 hn)).2.2.1
 have HVO':Hid (vld ⟨neg',l',x'⟩=true->m≠0->val l' % 2=1):=fun hv hn=>(zAU hv ((zAL h').2 hn)).2.2.1
 have HVL:Hid (vld ⟨neg,l,x⟩=true->n≠0->zAT (val l)<=4096):=fun hv hn=>(zAU hv ((zAL h).2 hn)).2.2.2.1
 have HVL':Hid (vld ⟨neg',l',x'⟩=true->m≠0->zAT (val l')<=4096):=fun hv hn=>(zAU hv ((zAL h').2 hn)).2.2.2.1
 have HZ:Hid (n=0->val l=0):=fun hn=>by rw [h.empty hn];rfl
 have HZ':Hid (m=0->val l' = 0):=fun hn=>by rw [h'.empty hn];rfl
 obtain ⟨k1,k2,k3,k4,k5⟩:=zNO w 41 #[.bool neg,.slice A n c,.int .i64 x] #[.bool neg',.slice B m d,.int .i64 x'] #[.bool false,.slice none 0 0,.int .i64 0];have h1:=h.below k5;have h1':=h'.below k5;have HT:=Zh (ht.next k5);clear ht;generalize hv:vld ⟨neg,l,x⟩=v at *;generalize hv':vld ⟨neg',l',x'⟩=v' at *;have HV:=Zh hv;have HV':=Zh hv';clear hv hv';go_enter Tryz.func280,Tryz.ntmps280
 go_wp2_with fail
 generalize ((w.alloc (.cells #[.bool neg,.slice A n c,.int .i64 x] 41)).alloc (.cells #[.bool neg',.slice B m d,.int .i64 x'] 41)).alloc (.cells #[.bool false,.slice none 0 0,.int .i64 0] 41)=W0 at *;refine (zA4 neg A n c l x _ h1 (by omega)).mono ?_;rintro e w1 ⟨rfl,hb1⟩
 rw [HV.out];have j1:=k1.below hb1 (by omega);have j2:=k2.below hb1 (by omega);have j3:=k3.below hb1 (by omega);have hz1:w.heap.size+3<=w1.heap.size:=by have:=hb1.size;omega
 have h2:=h1.below hb1;have h2':=h1'.below hb1;have HT1:=Zh (HT.out.next hb1);have hbw:=zAA k5 hb1;obtain ⟨s0,s1,s2⟩:=j1.cells3;obtain ⟨t0,t1,t2⟩:=j2.cells3;obtain ⟨r0,r1,r2⟩:=j3.cells3;have f0:=j3.frozen 0;have f1:=j3.frozen 1;have f2:=j3.frozen 2;clear k1 k2 k3 k4 h1 h1' HT hb1;cases v
 ·have hr:r=(zAZ,1):=by rw [HA.out];simp
  subst hr;clear HA;go_wp2_with fail
  refine Yn (zBI Tryz.results280 rfl (j3.set3 _ _ _)) rfl ?_;exact ⟨none,0,0,rfl,SL.nil _,zAn.zero,zAG hbw (by omega) _ _ _⟩
 ·go_wp2_with fail
  refine (zA4 neg' B m d l' x' _ h2' (by omega)).mono ?_;rintro e w2 ⟨rfl,hb2⟩
  rw [HV'.out];have i1:=j1.below hb2 (by omega);have i2:=j2.below hb2 (by omega);have i3:=j3.below hb2 (by omega);have hz2:w.heap.size+3<=w2.heap.size:=by have:=hb2.size;omega
  have h3:=h2.below hb2;have h3':=h2'.below hb2;have HT2:=Zh (HT1.out.next hb2);have hbw2:=zAA hbw hb2;clear s0 s1 s2 t0 t1 t2 r0 r1 r2 f0 f1 f2 j1 j2 j3 h2 h2' HT1 hb2 hbw hz1;obtain ⟨s0,s1,s2⟩:=i1.cells3;obtain ⟨t0,t1,t2⟩:=i2.cells3;obtain ⟨r0,r1,r2⟩:=i3.cells3;have f0:=i3.frozen 0;have f1:=i3.frozen 1;have f2:=i3.frozen 2;cases v'
  ·have hr:r=(zAZ,1):=by rw [HA.out];simp
   subst hr;clear HA;go_wp2_with fail
   refine Yn (zBI Tryz.results280 rfl (i3.set3 _ _ _)) rfl ?_;exact ⟨none,0,0,rfl,SL.nil _,zAn.zero,zAG hbw2 (by omega) _ _ _⟩
  ·have hr:r=zAu (neg != neg') (val l*val l') (x+x'):=by rw [HA.out];simp
   have HR:=Zh hr;clear HA hr;obtain ⟨hn256,hx1,hx2⟩:=HVB.out (by simp);obtain ⟨hm256,hy1,hy2⟩:=HVB'.out (by simp);by_cases hn0:n=0
   ·have hr:r=(zAZ,0):=by rw [HR.out,HZ.out hn0,Nat.zero_mul];rfl
    subst hr;subst hn0;clear HR;go_wp2_with fail
    refine Yn (zBI Tryz.results280 rfl (i3.set3 _ _ _)) rfl ?_;exact ⟨none,0,0,rfl,SL.nil _,zAn.zero,zAG hbw2 (by omega) _ _ _⟩
   have hn0':((n:Int) == 0)=false:=by simp;omega
   by_cases hm0:m=0
   ·have hr:r=(zAZ,0):=by rw [HR.out,HZ'.out hm0,Nat.mul_zero];rfl
    subst hr;subst hm0;clear HR;go_wp2_with fail
    refine Yn (zBI Tryz.results280 rfl (i3.set3 _ _ _)) rfl ?_;exact ⟨none,0,0,rfl,SL.nil _,zAn.zero,zAG hbw2 (by omega) _ _ _⟩
   have hm0':((m:Int) == 0)=false:=by simp;omega
   have HO1:=Zh (HVO.out (by simp) hn0);have HO2:=Zh (HVO'.out (by simp) hm0);have HBM:=Zh (zPt (v:=val l) (u:=val l') (by have:=HO1.out;omega) (by have:=HO2.out;omega));have b1:=HVL.out (by simp) hn0;have b2:=HVL'.out (by simp) hm0;generalize hN:zAT (val l)=N at *;generalize hM:zAT (val l')=M at *;have HN:=Zh hN;have HM:=Zh hM;clear hN hM;have hq1:IntKind.i64.wrap ((N:Int)+(M:Int))=(N:Int)+(M:Int):=IntWalk.i64_in _ (by omega);have hq2:IntKind.i64.wrap ((N:Int)+(M:Int) - 1)=(N:Int)+(M:Int) - 1:=IntWalk.i64_in _ (by omega);have HQ:Hid (∀q,Calls Tryz.prog 177 #[.slice A n c] (w2.drewN q) fun e w'=>e=.returned (.int .i64 (N:Int))/\w' = w2.drewN q):=fun q=>by
    have:=zCF A n c l _ (h3.drewN q) (by omega);rw [HN.out] at this;exact this.mono (fun e w' ⟨he,hw⟩=>⟨he,hw.symm⟩)
   have HQ':Hid (∀q,Calls Tryz.prog 177 #[.slice B m d] (w2.drewN q) fun e w'=>e=.returned (.int .i64 (M:Int))/\w' = w2.drewN q):=fun q=>by
    have:=zCF B m d l' _ (h3'.drewN q) (by omega);rw [HM.out] at this;exact this.mono (fun e w' ⟨he,hw⟩=>⟨he,hw.symm⟩)
   by_cases hbig:4096<(N:Int)+(M:Int) - 1
   ·have hr:r=(zAZ,9):=by
     rw [HR.out];refine zDi _ _ _ (by rw [Nat.mul_mod,HO1.out,HO2.out]) ?_;have:=HBM.out.1;omega
    subst hr;have hdec:decide (4096<(N:Int)+(M:Int) - 1)=true:=Yf hbig;clear HR HBM;go_wp2_with fail
    go_quiet ((go_at_call 177;first | (with_reducible exact Calls.quiet_of_same (HQ.out _)) | (with_reducible exact Calls.quiet_of_same (HQ'.out _))))
    go_wp2_with fail
    refine Yn (zBI Tryz.results280 rfl ((i3.drewN _).set3 _ _ _)) rfl ?_;exact ⟨none,0,0,rfl,SL.nil _,zAn.zero,zAG (zAR hbw2 _) (by omega) _ _ _⟩
   ·have hdec:decide (4096<(N:Int)+(M:Int) - 1)=false:=Ye hbig
    have hlen:(zAa (val l*val l')).length<=256:=Yq (zAP _ 129 (by have:=HBM.out.2;omega)) (by omega);have HLE:=Zh hlen;clear HBM hlen;go_wp2_with fail
    go_quiet ((go_at_call 177;first | (with_reducible exact Calls.quiet_of_same (HQ.out _)) | (with_reducible exact Calls.quiet_of_same (HQ'.out _))))
    have h5:=h3.drewN nq;have h5':=h3'.drewN nq;have HT5:Hid (zBx (w2.drewN nq)):=HT2.out;have m1:=i1.drewN nq;have m2:=i2.drewN nq;have m3:=i3.drewN nq;have hbw5:=zAR hbw2 nq;clear i1 i2 i3 h3 h3' HT2 hbw2 HQ HQ' hq1 hq2 s0 s1 s2 t0 t1 t2 r0 r1 r2 f0 f1 f2;have hz5:w.heap.size+3<=(w2.drewN nq).heap.size:=hz2;clear hz2;generalize w2.drewN nq=W5 at *;obtain ⟨s0,s1,s2⟩:=m1.cells3;obtain ⟨t0,t1,t2⟩:=m2.cells3;go_wp2_with fail
    refine (zRA A B n c m d l l' _ h5 h5' hn256 hm256 HLE.out).mono ?_;rintro e w6 ⟨A6,n6,c6,rfl,hs6,hf6,hb6⟩
    have p1:=m1.below hb6 m1.lt;have p2:=m2.below hb6 m2.lt;have p3:=m3.below hb6 m3.lt;have hbw6:=zAA hbw5 hb6;have HT6:=Zh (HT5.out.next hb6);have hz6:w.heap.size+3<=w6.heap.size:=p3.lt;have hn6:n6<=256:=by rw [<- hs6.len];exact HLE.out
    clear m1 m2 m3 s0 s1 s2 t0 t1 t2 HT5 hbw5 h5 h5' hb6 hf6;obtain ⟨s0,s1,s2⟩:=p1.cells3;obtain ⟨t0,t1,t2⟩:=p2.cells3;have hw:IntKind.i64.wrap (x+x')=x+x':=IntWalk.i64_in _ (by omega);go_wp2_with fail
    refine (zAi (neg != neg') A6 n6 c6 (zAa (val l*val l')) (x+x') _ hs6 hn6 (by omega) (by omega) HT6.out).mono ?_;rw [zAH];rintro e w7 ⟨A1,n1,c1,rfl,hs1,hf1,hb7⟩
    have hn1:n1<=256:=by
     rw [<- hs1.len];unfold zAN
     split
     ·simp [zAZ]
     ·exact zCR (zAk (val l*val l')) HLE.out (by rw [zAH];exact Nat.div_le_self _ _)
    have HD:Hid (r=if inR (val (zAN (neg != neg') (val l*val l') (x+x')).l) (zAN (neg != neg') (val l*val l') (x+x')).e=true then (zAN (neg != neg') (val l*val l') (x+x'),0) else (zAZ,9)):=HR.out;generalize hd:zAN (neg != neg') (val l*val l') (x+x')=d7 at *;clear hd HR;have hbw7:=zAA hbw6 hb7;have q3:=p3.below hb7 p3.lt;have hz7:w.heap.size+3<=w7.heap.size:=q3.lt;clear hw s0 s1 s2 t0 t1 t2;by_cases hr:inR (val d7.l) d7.e=true
    ·have hrr:r=(d7,0):=by rw [HD.out,if_pos hr]
     subst hrr;go_wp2_with fail
     refine (zBf d7.neg A1 n1 c1 d7.l d7.e _ hs1 (by omega) hr).mono ?_;rintro e w8 ⟨rfl,hb8⟩
     clear hr HD;have g3:=q3.below hb8 q3.lt;obtain ⟨v0,v1,v2⟩:=g3.cells3;have e0:=g3.frozen 0;have e1:=g3.frozen 1;have e2:=g3.frozen 2;have hf1':zAn (w.heap.size+3) A1 n1:=hf1.mono hz6;go_wp2_with fail
     refine Yn (zBI Tryz.results280 rfl (g3.set3 _ _ _)) rfl ?_;exact ⟨A1,n1,c1,rfl,((((hs1.below hb8).far hf1' (by omega) 0 _).far hf1' (by omega) 1 _).far hf1' (by omega) 2 _),hf1.mono (by omega),zAG (zAA hbw7 hb8) (by omega) _ _ _⟩
    ·have hrr:r=(zAZ,9):=by rw [HD.out,if_neg hr]
     subst hrr;go_wp2_with fail
     refine (zBJ d7.neg A1 n1 c1 d7.l d7.e _ hs1 (by omega) (by simpa using hr)).mono ?_;rintro e w8 ⟨rfl,hb8⟩
     clear hr HD;have g3:=q3.below hb8 q3.lt;obtain ⟨v0,v1,v2⟩:=g3.cells3;have e0:=g3.frozen 0;have e1:=g3.frozen 1;have e2:=g3.frozen 2;go_wp2_with fail
     refine Yn (zBI Tryz.results280 rfl (g3.set3 _ _ _)) rfl ?_;exact ⟨none,0,0,rfl,SL.nil _,zAn.zero,zAG (zAA hbw7 hb8) (by omega) _ _ _⟩
def zHh (d d':Dy):Int:=if (zAT (val d.l):Int)+d.e<(zAT (val d'.l):Int)+d'.e then -1 else if (zAT (val d'.l):Int)+d'.e<(zAT (val d.l):Int)+d.e then 1 else
 zCT (val d.l*2^(d.e - min d.e d'.e).toNat) (val d'.l*2^(d'.e - min d.e d'.e).toNat)
def zCH (d d':Dy):Int:=if vld d=true/\vld d' = true then (if zBP d<zBP d' then -1 else if zBP d' < zBP d then 1 else if zBP d=0 then 0 else zBP d*zHh d d') else 0
theorem zKk (neg neg':Bool) (A B:Option Addr) (n c m d:Nat) (l l':List Nat) (x x':Int) (w:World) (h:SL w A n c l) (h':SL w B m d l')
  (hv:vld ⟨neg,l,x⟩=true) (hv':vld ⟨neg',l',x'⟩=true) (hne:n≠0) (hne':m≠0) :
  Calls Tryz.prog 67 #[.agg #[.bool neg,.slice A n c,.int .i64 x],.agg #[.bool neg',.slice B m d,.int .i64 x']] w fun e w'=>e=.returned (.int .i64 (zHh ⟨neg,l,x⟩ ⟨neg',l',x'⟩))/\Below w.heap.size w w':=by
 obtain ⟨mn,hmn⟩:∃mn,min x x' = mn:=⟨_,rfl⟩;obtain ⟨b1,b2,b3,b4,b5,b6,b7⟩:=zAU hv ((zAL h).2 hne);obtain ⟨b1',b2',b3',b4',b5',b6',b7'⟩:=zAU hv' ((zAL h').2 hne');have hn256:n<=256:=by rw [<- h.len];exact b1
 have hm256:m<=256:=by rw [<- h'.len];exact b1'
 have B3:=Zh b3;have B3':=Zh b3';have TT:Hid (zCU ⟨neg,l,x⟩=(zAT (val l):Int)+x):=by unfold Hid zCU;rw [if_pos ⟨hv,(zAL h).2 hne⟩]
 have TT':Hid (zCU ⟨neg',l',x'⟩=(zAT (val l'):Int)+x'):=by unfold Hid zCU;rw [if_pos ⟨hv',(zAL h').2 hne'⟩]
 have hm1:mn<=x:=by omega
 have hm2:mn<=x':=by omega
 have hm3:mn=x\/mn=x':=by omega
 simp only at b4 b5 b6 b7 b4' b5' b6' b7';have hm4:-16384<=mn:=by omega
 have HM3:=Zh hm3;have HMN:=Zh hmn;have HR:Hid (zHh ⟨neg,l,x⟩ ⟨neg',l',x'⟩=if (zAT (val l):Int)+x<(zAT (val l'):Int)+x' then -1 else if (zAT (val l'):Int)+x' < (zAT (val l):Int)+x then 1 else
   zCT (val l*2^(x - mn).toNat) (val l' * 2^(x' - mn).toNat)):=by unfold Hid zHh;rw [<- hmn]
 generalize zHh ⟨neg,l,x⟩ ⟨neg',l',x'⟩=r at *;clear b1 b1' b2 b2' b3 b3' hmn hv hv' hm3;go_enter Tryz.func67,Tryz.ntmps67
 go_wp2_with fail
 have k1:=(Blk.new w 41 #[.bool neg,.slice A n c,.int .i64 x]).alloc (.cells #[.bool neg',.slice B m d,.int .i64 x'] 41);have k2:=Blk.newAt (w.alloc (.cells #[.bool neg,.slice A n c,.int .i64 x] 41)) 41 #[.bool neg',.slice B m d,.int .i64 x'] (g:=w.heap.size+1) (by simp);have k5:=(zAE w (.cells #[.bool neg,.slice A n c,.int .i64 x] 41)).alloc (by simp) (.cells #[.bool neg',.slice B m d,.int .i64 x'] 41);have h1:=h.below k5;have h1':=h'.below k5;generalize (w.alloc (.cells #[.bool neg,.slice A n c,.int .i64 x] 41)).alloc (.cells #[.bool neg',.slice B m d,.int .i64 x'] 41)=W0 at *;obtain ⟨s0,s1,s2⟩:=k1.cells3;obtain ⟨t0,t1,t2⟩:=k2.cells3;have hg0:w.heap.size<W0.drew.heap.size:=k1.lt;have hg1:w.heap.size+1<W0.drew.heap.size:=k2.lt
 go_region_held3 (fun W=>W.cell? ⟨w.heap.size,0,none⟩=some (.bool neg)/\W.cell? ⟨w.heap.size,1,none⟩=some (.slice A n c)/\W.cell? ⟨w.heap.size,2,none⟩=some (.int .i64 x)/\W.cell? ⟨w.heap.size+1,0,none⟩=some (.bool neg')/\W.cell? ⟨w.heap.size+1,1,none⟩=some (.slice B m d)/\W.cell? ⟨w.heap.size+1,2,none⟩=some (.int .i64 x'))
  (first | exact ⟨s0,s1,s2,t0,t1,t2⟩ | exact zCn hbA hg0 hg1 ⟨s0,s1,s2,t0,t1,t2⟩ | exact zCn (zAA hbA hbB) hg0 hg1 ⟨s0,s1,s2,t0,t1,t2⟩)
  (first
   | (go_at_call 126; (with_reducible refine (zBB neg A n c l x _ h1.drew (by omega)).mono ?_);rintro e wA ⟨rfl,hbA⟩)
   | (go_at_call 126; (with_reducible refine (zBB neg' B m d l' x' _ (h1'.drew.below hbA) (by omega)).mono ?_);rintro e wB ⟨rfl,hbB⟩))
 rw [TT.out,TT'.out];have hbAB:=zAA hbA hbB;have k1B:=k1.drew.below hbAB hg0;have k2B:=k2.drew.below hbAB hg1;have hbw:Below w.heap.size w wB:=zAA (zAR k5 1) hbAB;have h2:=h1.drew.below hbAB;have h2':=h1'.drew.below hbAB;clear k1 k2 k5 h1 h1' s0 s1 s2 t0 t1 t2 hbA hbB hbAB TT TT' hg0 hg1;obtain ⟨s0,s1,s2⟩:=k1B.cells3;obtain ⟨t0,t1,t2⟩:=k2B.cells3;have hg0:w.heap.size<wB.drew.heap.size:=k1B.lt;have hg1:w.heap.size+1<wB.drew.heap.size:=k2B.lt;generalize hN1:zAT (val l)=N1 at *;generalize hN2:zAT (val l')=N2 at *;have HBN1:=Zh hN1;have HBN2:=Zh hN2;clear hN1 hN2;by_cases c1:(N1:Int)+x<(N2:Int)+x'
 ·have R1:Hid (r = -1):=by unfold Hid;rw [HR.out,if_pos c1]
  go_wp2_with fail
  go_ret;exact ⟨by rw [R1.out];rfl,hbw⟩
 by_cases c2:(N2:Int)+x' < (N1:Int)+x
 ·have R1:Hid (r=1):=by unfold Hid;rw [HR.out,if_neg c1,if_pos c2]
  go_wp2_with fail
  go_ret;exact ⟨by rw [R1.out];rfl,hbw⟩
 have q1e:∃q1:Nat,x - mn=(q1:Int):=⟨(x - mn).toNat,by omega⟩;have q2e:∃q2:Nat,x' - mn=(q2:Int):=⟨(x' - mn).toNat,by omega⟩;obtain ⟨q1,hq1⟩:=q1e;obtain ⟨q2,hq2⟩:=q2e;have hm3:=HM3.out;have hT1:N1+q1<=4097:=by omega
 have hT2:N2+q2<=4097:=by omega
 have hq1b:q1<=65536:=by omega
 have hq2b:q2<=65536:=by omega
 have P1:0<val l:=by have:=B3.out;omega
 have P2:0<val l':=by have:=B3'.out;omega
 have L1:Hid (zAT (val l*2^q1)=N1+q1):=by unfold Hid;rw [zAc _ _ P1,HBN1.out]
 have L2:Hid (zAT (val l' * 2^q2)=N2+q2):=by unfold Hid;rw [zAc _ _ P2,HBN2.out]
 have D1:Hid ((zAa (val l*2^q1)).length<=256):=Yq (zAP _ 129 (by rw [L1.out];omega)) (by omega);have D2:Hid ((zAa (val l' * 2^q2)).length<=256):=Yq (zAP _ 129 (by rw [L2.out];omega)) (by omega);have E1:Hid ((x - mn).toNat=q1):=by unfold Hid;omega
 have E2:Hid ((x' - mn).toNat=q2):=by unfold Hid;omega
 have HRR:Hid (r=zCT (val l*2^q1) (val l' * 2^q2)):=by unfold Hid;rw [HR.out,if_neg c1,if_neg c2,E1.out,E2.out]
 have W1:IntKind.i64.wrap (x - mn)=(q1:Int):=by rw [hq1];exact IntWalk.i64_in _ (by omega)
 have W2:IntKind.i64.wrap (x' - mn)=(q2:Int):=by rw [hq2];exact IntWalk.i64_in _ (by omega)
 clear hm3 hq1 hq2 P1 P2 HR;go_wp2_with fail
 rw [HMN.out]
 go_region_held3 (fun W=>W.cell? ⟨w.heap.size,1,none⟩=some (.slice A n c)/\W.cell? ⟨w.heap.size,2,none⟩=some (.int .i64 x)/\W.cell? ⟨w.heap.size+1,1,none⟩=some (.slice B m d)/\W.cell? ⟨w.heap.size+1,2,none⟩=some (.int .i64 x'))
  (first | exact ⟨s1,s2,t1,t2⟩ | exact zEf hbC hg0 hg1 ⟨s1,s2,t1,t2⟩ | exact zEf (zAA hbC hbD) hg0 hg1 ⟨s1,s2,t1,t2⟩ | exact zEf (zAR (zAA hbC hbD) q) hg0 hg1 ⟨s1,s2,t1,t2⟩)
  (first
   | (go_at_call 128; (with_reducible refine (zAs A n c q1 _ l _ h2.drew hn256 rfl hq1b D1.out).mono ?_);rintro e wC ⟨AC,nC,cC,rfl,hsC,hfC,hbC⟩)
   | (go_at_call 128; (with_reducible refine (zAs B m d q2 _ l' _ (h2'.drew.below hbC) hm256 rfl hq2b D2.out).mono ?_);rintro e wD ⟨AD,nD,cD,rfl,hsD,hfD,hbD⟩)
   | (go_at_call 127; (refine (zDN AC AD nC cC nD cD (zAa (val l*2^q1)) (zAa (val l' * 2^q2)) _ (hsC.below hbD) hsD).mono ?_);rw [zAH,zAH];rintro e wE ⟨rfl,q,rfl⟩))
 go_wp2_with fail
 go_ret;exact ⟨by rw [HRR.out];rfl,zAR (zAA (zAR hbw 1) (zAA hbC hbD)) q⟩
theorem zRk {neg:Bool}{w:World}{A:Option Addr}{n c:Nat}{l:List Nat}{x:Int}(h:SL w A n c l) (hs:zBP ⟨neg,l,x⟩≠0):n≠0:=by
 intro h0;apply hs
 unfold zBP;rw [if_neg (by rw [zAL h];exact fun h=>h.2 h0)]
theorem zFG (d:Dy):zBP d = -1\/zBP d=0\/zBP d=1:=by
 unfold zBP
 split
 ·split <;> simp
 ·simp
theorem zMi (a b:Nat):zCT a b = -1\/zCT a b=0\/zCT a b=1:=by
 unfold zCT
 split
 ·exact .inl rfl
 ·split
  ·exact .inr (.inr rfl)
  ·exact .inr (.inl rfl)
theorem zMX (d d':Dy):zHh d d' = -1\/zHh d d' = 0\/zHh d d' = 1:=by
 unfold zHh
 split
 ·simp
 ·split
  ·simp
  ·exact zMi _ _
theorem zLb (neg neg':Bool) (A B:Option Addr) (n c m d:Nat) (l l':List Nat) (x x':Int) (w:World) (h:SL w A n c l) (h':SL w B m d l') (hn:n<=1000000) (hm:m<=1000000) :
  Calls Tryz.prog 25 #[.agg #[.bool neg,.slice A n c,.int .i64 x],.agg #[.bool neg',.slice B m d,.int .i64 x']] w fun e w'=>e=.returned (.int .i64 (zCH ⟨neg,l,x⟩ ⟨neg',l',x'⟩))/\Below w.heap.size w w':=by
 have HR:Hid (zCH ⟨neg,l,x⟩ ⟨neg',l',x'⟩=if vld ⟨neg,l,x⟩=true/\vld ⟨neg',l',x'⟩=true then (if zBP ⟨neg,l,x⟩<zBP ⟨neg',l',x'⟩ then -1 else if zBP ⟨neg',l',x'⟩<zBP ⟨neg,l,x⟩ then 1 else if zBP ⟨neg,l,x⟩=0 then 0 else zBP ⟨neg,l,x⟩ * zHh ⟨neg,l,x⟩ ⟨neg',l',x'⟩) else 0):=rfl;generalize zCH ⟨neg,l,x⟩ ⟨neg',l',x'⟩=r at *;go_enter Tryz.func25,Tryz.ntmps25
 go_wp2_with fail
 have k1:=(Blk.new w 41 #[.bool neg,.slice A n c,.int .i64 x]).alloc (.cells #[.bool neg',.slice B m d,.int .i64 x'] 41);have k2:=Blk.newAt (w.alloc (.cells #[.bool neg,.slice A n c,.int .i64 x] 41)) 41 #[.bool neg',.slice B m d,.int .i64 x'] (g:=w.heap.size+1) (by simp);have k5:=(zAE w (.cells #[.bool neg,.slice A n c,.int .i64 x] 41)).alloc (by simp) (.cells #[.bool neg',.slice B m d,.int .i64 x'] 41);have h1:=h.below k5;have h1':=h'.below k5;generalize (w.alloc (.cells #[.bool neg,.slice A n c,.int .i64 x] 41)).alloc (.cells #[.bool neg',.slice B m d,.int .i64 x'] 41)=W0 at *;refine (zA4 neg A n c l x _ h1 (by omega)).mono ?_;rintro e w1 ⟨rfl,hb1⟩
 cases hv:vld ⟨neg,l,x⟩
 ·go_wp2_with fail
  go_ret;exact ⟨by rw [HR.out,hv];rfl,zAA k5 hb1⟩
 have HV:=Zh hv;clear hv;obtain ⟨t0,t1,t2⟩:=(k2.below hb1 k2.lt).cells3;go_wp2_with fail
 refine (zA4 neg' B m d l' x' _ (h1'.below hb1) (by omega)).mono ?_;rintro e w2 ⟨rfl,hb2⟩
 have hb02:=zAA hb1 hb2;cases hv':vld ⟨neg',l',x'⟩
 ·go_wp2_with fail
  go_ret;exact ⟨by rw [HR.out,hv'];simp,zAA k5 hb02⟩
 have HV':=Zh hv';clear hv';have k1B:=k1.below hb02 k1.lt;have k2B:=k2.below hb02 k2.lt;have h2:=h1.below hb02;have h2':=h1'.below hb02;have hbw2:=zAA k5 hb02;have HR2:Hid (r=if zBP ⟨neg,l,x⟩<zBP ⟨neg',l',x'⟩ then -1 else if zBP ⟨neg',l',x'⟩<zBP ⟨neg,l,x⟩ then 1 else if zBP ⟨neg,l,x⟩=0 then 0 else zBP ⟨neg,l,x⟩ * zHh ⟨neg,l,x⟩ ⟨neg',l',x'⟩):=by
  unfold Hid;rw [HR.out,if_pos ⟨HV.out,HV'.out⟩]
 clear k1 k2 k5 h1 h1' hb1 hb2 hb02 t0 t1 t2 HR;obtain ⟨s0,s1,s2⟩:=k1B.cells3;obtain ⟨t0,t1,t2⟩:=k2B.cells3;have hg0:w.heap.size<w2.drew.heap.size:=k1B.lt;have hg1:w.heap.size+1<w2.drew.heap.size:=k2B.lt;have sc:=zFG ⟨neg,l,x⟩;have sc':=zFG ⟨neg',l',x'⟩;have HNE:Hid (zBP ⟨neg,l,x⟩≠0->n≠0):=fun hs=>zRk h hs
 have HNE':Hid (zBP ⟨neg',l',x'⟩≠0->m≠0):=fun hs=>zRk h' hs
 have HA:=Zh (zMX ⟨neg,l,x⟩ ⟨neg',l',x'⟩);generalize hS:zBP ⟨neg,l,x⟩=S at *;generalize hS':zBP ⟨neg',l',x'⟩=S' at *;have HS:=Zh hS;have HS':=Zh hS';clear hS hS';go_wp2_with fail
 go_region_held3 (fun W=>W.cell? ⟨w.heap.size,0,none⟩=some (.bool neg)/\W.cell? ⟨w.heap.size,1,none⟩=some (.slice A n c)/\W.cell? ⟨w.heap.size,2,none⟩=some (.int .i64 x)/\W.cell? ⟨w.heap.size+1,0,none⟩=some (.bool neg')/\W.cell? ⟨w.heap.size+1,1,none⟩=some (.slice B m d)/\W.cell? ⟨w.heap.size+1,2,none⟩=some (.int .i64 x'))
  (first | exact ⟨s0,s1,s2,t0,t1,t2⟩ | exact zCn hbA hg0 hg1 ⟨s0,s1,s2,t0,t1,t2⟩ | exact zCn (zAA hbA hbB) hg0 hg1 ⟨s0,s1,s2,t0,t1,t2⟩)
  (first
   | (go_at_call 48; (with_reducible refine (zFH neg A n c l x _ h2.drew (by omega)).mono ?_);rw [HS.out];rintro e wA ⟨rfl,hbA⟩)
   | (go_at_call 48; (with_reducible refine (zFH neg' B m d l' x' _ (h2'.drew.below hbA) (by omega)).mono ?_);rw [HS'.out];rintro e wB ⟨rfl,hbB⟩))
 have hbAB:=zAA hbA hbB;have k1C:=k1B.drew.below hbAB hg0;have k2C:=k2B.drew.below hbAB hg1;have hbw:Below w.heap.size w wB:=zAA (zAR hbw2 1) hbAB;have h3:=h2.drew.below hbAB;have h3':=h2'.drew.below hbAB;clear k1B k2B h2 h2' s0 s1 s2 t0 t1 t2 hbA hbB hbAB hg0 hg1 hbw2 HS HS';obtain ⟨s0,s1,s2⟩:=k1C.cells3;obtain ⟨t0,t1,t2⟩:=k2C.cells3;by_cases c1:S<S'
 ·have R1:Hid (r = -1):=by unfold Hid;rw [HR2.out,if_pos c1]
  go_wp2_with fail
  go_ret;exact ⟨by rw [R1.out];rfl,hbw⟩
 by_cases c2:S' < S
 ·have R1:Hid (r=1):=by unfold Hid;rw [HR2.out,if_neg c1,if_pos c2]
  go_wp2_with fail
  go_ret;exact ⟨by rw [R1.out];rfl,hbw⟩
 obtain rfl:S' = S:=by omega
 by_cases c3:S' = 0
 ·subst c3
  have R1:Hid (r=0):=by unfold Hid;rw [HR2.out];rfl
  go_wp2_with fail
  go_ret;exact ⟨by rw [R1.out];rfl,hbw⟩
 ·have c4:(S' == 0)=false:=by simp;omega
  have HRR:Hid (r=S' * zHh ⟨neg,l,x⟩ ⟨neg',l',x'⟩):=by unfold Hid;rw [HR2.out,if_neg c1,if_neg c2,if_neg c3]
  clear HR2;go_wp2_with fail
  refine (zKk neg neg' A B n c m d l l' x x' _ h3 h3' HV.out HV'.out (HNE.out c3) (HNE'.out c3)).mono ?_;rintro e w5 ⟨rfl,hb5⟩
  have ha:=HA.out;generalize zHh ⟨neg,l,x⟩ ⟨neg',l',x'⟩=ac at *;have hw:IntKind.i64.wrap (S' * ac)=S' * ac:=by
   rcases sc with rfl | rfl | rfl <;> rcases ha with rfl | rfl | rfl <;> rfl
  go_wp2_with fail
  go_ret;exact ⟨by rw [HRR.out];first | rfl | (simp only [hw];rfl),zAA hbw hb5⟩
theorem zEG:vld zAZ=true:=rfl
theorem zKY {neg:Bool}{x:Int}(hv:vld ⟨neg,[],x⟩=true):neg=false/\x=0:=by
 rw [zEm] at hv
 simpa using hv
def za (K v:Nat) (e:Int):Nat:=v*2^(e+(K:Int)).toNat
def zs (K:Nat) (neg:Bool) (v:Nat) (e:Int):Int:=if neg then -(za K v e:Int) else (za K v e:Int)
def zd (K:Nat) (d:Dy):Int:=zs K d.neg (val d.l) d.e
theorem zJF (K v k:Nat) (e:Int) (h:0<=e+(K:Int)):za K (v*2^k) e=za K v (e+(k:Int)):=by
 unfold za;rw [show (e+(k:Int)+(K:Int)).toNat=k+(e+(K:Int)).toNat by omega,Nat.pow_add,Yz]
theorem zJG (K:Nat) (neg:Bool) (v k:Nat) (e:Int) (h:0<=e+(K:Int)):zs K neg (v*2^k) e=zs K neg v (e+(k:Int)):=by
 unfold zs;rw [zJF K v k e h]
theorem zTd (K:Nat) (e:Int):za K 0 e=0:=by simp [za]
theorem zFn (K:Nat) (neg:Bool) (e:Int):zs K neg 0 e=0:=by simp [zs,zTd]
theorem zHT {K v:Nat}{e:Int}(h:0<v):0<za K v e:=Nat.mul_pos h (Nat.pow_pos (by omega))
def zPk (d:Dy):Prop:=zAV d.l/\((d.l=[]/\d.neg=false/\d.e=0)\/(zKd d.l/\val d.l%2=1))
theorem zGX (neg:Bool) (v:Nat) (e:Int):zPk (zAN neg v e):=by
 by_cases h:v=0
 ·subst h
  exact ⟨zAV.nil,.inl ⟨rfl,rfl,rfl⟩⟩
 ·rw [zCb (by omega)]
  refine ⟨zAk _,.inr ⟨zDC _,?_⟩⟩;simp only [zAH];exact (zCj v (by omega)).2
theorem zIT {d:Dy}(hL:zAV d.l) (hv:vld d=true):zPk d:=by
 obtain ⟨neg,l,x⟩:=d;refine ⟨hL,?_⟩;by_cases h:l=[]
 ·subst h
  obtain ⟨rfl,rfl⟩:=zKY hv;exact .inl ⟨rfl,rfl,rfl⟩
 ·have:=zAU hv h
  exact .inr ⟨this.2.1,this.2.2.1⟩
theorem zMT (K:Nat) (neg:Bool) (v:Nat) (e:Int) (h:0<=e+(K:Int)):zd K (zAN neg v e)=zs K neg v e:=by
 by_cases hv:v=0
 ·subst hv
  rw [zFn];exact zFn K false 0
 ·have hs:=(zCj v (by omega)).1
  rw [zCb (by omega)];unfold zd;simp only [zAH];rw [<- zJG K neg _ _ e h];rw [show v / 2^tz v*2^tz v=v from hs.symm]
theorem zNm (K:Nat) (neg:Bool) (v:Nat) (e:Int) (h:0<=e+(K:Int)):0<=(zAN neg v e).e+(K:Int):=by
 unfold zAN
 split
 ·simp [zAZ]
 ·simp only;omega
theorem zVs {K v v':Nat}{e e':Int}(h1:0<=e+(K:Int)) (h2:0<=e' + (K:Int)) (ho:v%2=1) (ho':v' % 2=1) (h:za K v e=za K v' e'):v=v'/\e=e':=by
 unfold za at h;have a:v=2*(v / 2)+1:=by omega
 have b:v' = 2*(v' / 2)+1:=by omega
 have h3:2^(e+(K:Int)).toNat*(2*(v / 2)+1)=2^(e' + (K:Int)).toNat*(2*(v' / 2)+1):=by
  rw [<- a,<- b,Nat.mul_comm,h,Nat.mul_comm]
 have h4:=zES h3;rw [h4] at h;exact ⟨Nat.eq_of_mul_eq_mul_right (Nat.pow_pos (by omega)) h,by omega⟩
theorem zDU (K:Nat) (neg:Bool) (v:Nat) (e:Int):(neg=false/\zs K neg v e=za K v e)\/(neg=true/\zs K neg v e = -(za K v e:Int)):=by
 cases neg
 ·exact .inl ⟨rfl,rfl⟩
 ·exact .inr ⟨rfl,rfl⟩
theorem zRv {K:Nat}{d d':Dy}(hc:zPk d) (hc':zPk d') (h1:0<=d.e+(K:Int)) (h2:0<=d'.e+(K:Int)) (h:zd K d=zd K d'):d=d':=by
 obtain ⟨neg,l,x⟩:=d;obtain ⟨neg',l',x'⟩:=d';obtain ⟨hL,hc⟩:=hc;obtain ⟨hL',hc'⟩:=hc';simp only at hL hL' hc hc' h1 h2;unfold zd at h;simp only at h;rcases hc with ⟨rfl,rfl,rfl⟩ | ⟨t,o⟩ <;> rcases hc' with ⟨rfl,rfl,rfl⟩ | ⟨t',o'⟩
 ·rfl
 ·have:=zHT (K:=K) (e:=x') (show 0<val l' by omega)
  rw [show val []=0 from rfl,zFn] at h;rcases zDU K neg' (val l') x' with ⟨_,e⟩ | ⟨_,e⟩ <;> omega
 ·have:=zHT (K:=K) (e:=x) (show 0<val l by omega)
  rw [show val []=0 from rfl,zFn] at h;rcases zDU K neg (val l) x with ⟨_,e⟩ | ⟨_,e⟩ <;> omega
 ·have p:=zHT (K:=K) (e:=x) (show 0<val l by omega)
  have p':=zHT (K:=K) (e:=x') (show 0<val l' by omega);have fin:neg=neg'->za K (val l) x=za K (val l') x'->(⟨neg,l,x⟩:Dy)=⟨neg',l',x'⟩:=by
   intro hn hz;obtain ⟨hv,hx⟩:=zVs h1 h2 o o' hz;subst hn hx;rw [<- zD3 l hL t,<- zD3 l' hL' t',hv]
  rcases zDU K neg (val l) x with ⟨n,e⟩ | ⟨n,e⟩ <;> rcases zDU K neg' (val l') x' with ⟨n',e'⟩ | ⟨n',e'⟩
  ·exact fin (n.trans n'.symm) (by omega)
  ·omega
  ·omega
  ·exact fin (n.trans n'.symm) (by omega)
theorem zCO {d:Dy}(hv:vld d=true):-16384<=d.e/\d.e<=16384:=by
 obtain ⟨neg,l,x⟩:=d;by_cases h:l=[]
 ·subst h
  obtain ⟨rfl,rfl⟩:=zKY hv;simp
 ·have:=zAU hv h
  exact ⟨this.2.2.2.2.1,this.2.2.2.2.2.1⟩
theorem zKX {K:Nat}{d d':Dy}(hK:16384<=K) (hL:zAV d.l) (hL':zAV d'.l) (hv:vld d=true) (hv':vld d' = true) (h:zd K d=zd K d'):d=d':=
 zRv (zIT hL hv) (zIT hL' hv') (by have:=zCO hv;omega) (by have:=zCO hv';omega) h
theorem zLa {K:Nat}{neg:Bool}{v:Nat}{e:Int}{d:Dy}(h:0<=e+(K:Int)) (hc:zAu neg v e=(d,0)):zd K d=zs K neg v e/\vld d=true/\zAV d.l:=by
 unfold zAu at hc
 split at hc
 ·rename_i hr
  have e1:=(Prod.mk.inj hc).1;rw [<- e1];exact ⟨zMT K neg v e h,by rw [zFL];exact hr,(zGX neg v e).1⟩
 ·have:=(Prod.mk.inj hc).2
  omega
theorem zPx {K:Nat}{neg:Bool}{v:Nat}{e:Int}{d:Dy}(h:0<=e+(K:Int)) (hK:16384<=K) (hL:zAV d.l) (hv:vld d=true) (hz:zs K neg v e=zd K d):zAu neg v e=(d,0):=by
 have e1:zAN neg v e=d:=zRv (K:=K) (zGX neg v e) (zIT hL hv) (zNm K neg v e h) (by have:=zCO hv;omega) (by rw [zMT K neg v e h,hz]);unfold zAu;rw [<- zFL,e1,if_pos hv]
theorem zGd {d:Dy}(hL:zAV d.l) (hv:vld d=true):zAu d.neg (val d.l) d.e=(d,0):=
 zPx (K:=16384) (by have:=zCO hv;omega) (Ya _) hL hv rfl
theorem zPe (K v u:Nat) (e:Int):za K (v+u) e=za K v e+za K u e:=by unfold za;rw [Nat.add_mul]
theorem zPP (neg neg':Bool) (P Q:Nat) (e:Int):∃n v,zDB neg neg' P Q e=zAu n v e/\∀K,zs K n v e=zs K neg P e+zs K neg' Q e:=by
 unfold zDB
 split
 ·rename_i h
  subst h;refine ⟨neg,P+Q,rfl,fun K=>?_⟩;unfold zs;rw [zPe];cases neg
  ·simp
  ·simp;omega
 ·rename_i h
  split
  ·rename_i hlt
   refine ⟨neg',Q - P,rfl,fun K=>?_⟩;have e1:=zPe K (Q - P) P e;rw [show Q - P+P=Q by omega] at e1;unfold zs;cases neg <;> cases neg' <;> simp at h ⊢ <;> omega
  ·rename_i hge
   refine ⟨neg,P - Q,rfl,fun K=>?_⟩;have e1:=zPe K (P - Q) Q e;rw [show P - Q+Q=P by omega] at e1;unfold zs;cases neg <;> cases neg' <;> simp at h ⊢ <;> omega
theorem zFM {K:Nat}{d:Dy}(h:d.l=[]):zd K d=0:=by unfold zd;rw [h];exact zFn _ _ _
theorem zPO {d d':Dy}(hL:zAV d.l) (hL':zAV d'.l) (hv:vld d=true) (hv':vld d' = true) :
  ∃n v e,zGM d d' = zAu n v e/\-16384<=e/\∀K,16384<=K->zs K n v e=zd K d+zd K d':=by
 have x:=zCO hv;have x':=zCO hv';by_cases h:d.l=[]
 ·refine ⟨d'.neg,val d'.l,d'.e,?_,x'.1,fun K _=>?_⟩
  ·unfold zGM;rw [if_pos h,zGd hL' hv']
  ·rw [zFM h];unfold zd;omega
 by_cases h':d'.l=[]
 ·refine ⟨d.neg,val d.l,d.e,?_,x.1,fun K _=>?_⟩
  ·unfold zGM;rw [if_neg h,if_pos h',zGd hL hv]
  ·rw [zFM h'];unfold zd;omega
 obtain ⟨n,v,e1,e2⟩:=zPP d.neg d'.neg (val d.l*2^(d.e - min d.e d'.e).toNat) (val d'.l*2^(d'.e - min d.e d'.e).toNat) (min d.e d'.e);refine ⟨n,v,min d.e d'.e,?_,by omega,fun K hK=>?_⟩
 ·unfold zGM;rw [if_neg h,if_neg h',e1]
 ·rw [e2 K,zJG _ _ _ _ _ (by omega),zJG _ _ _ _ _ (by omega)]
  unfold zd
  congr 2
  ·omega
  ·omega
theorem zNZ {a b x:Dy}(h:zCP a b=(x,0)):vld a=true/\vld b=true/\zGM a b=(x,0):=by
 unfold zCP at h
 split at h
 ·rename_i hv;exact ⟨hv.1,hv.2,h⟩
 ·have:=(Prod.mk.inj h).2;omega
theorem zFp {a b x:Dy}(hL:zAV a.l) (hL':zAV b.l) (h:zCP a b=(x,0)):vld a=true/\vld b=true/\vld x=true/\zAV x.l/\∀K,40000<=K->zd K x=zd K a+zd K b:=by
 obtain ⟨hv,hv',h⟩:=zNZ h;obtain ⟨n,v,e,e1,e2,e3⟩:=zPO hL hL' hv hv';rw [e1] at h;obtain ⟨_,g2,g3⟩:=zLa (K:=16384) (by omega) h;refine ⟨hv,hv',g2,g3,fun K hK=>?_⟩;rw [(zLa (K:=K) (by omega) h).1];exact e3 K (by omega)
theorem zVu {K:Nat}{d:Dy}(hv:vld d=true):zd K (zEL d) = -zd K d:=by
 obtain ⟨neg,l,x⟩:=d;unfold zEL;by_cases h:l=[]
 ·rw [if_neg (by simp [h]),zFM (d:=⟨neg,l,x⟩) h]
  exact zFM rfl
 ·rw [if_pos ⟨hv,h⟩]
  unfold zd zs;cases neg <;> simp
theorem zOS {d:Dy}(hL:zAV d.l):zAV (zEL d).l:=by
 unfold zEL
 split
 ·exact hL
 ·exact zAV.nil
theorem zPM {a b x:Dy}(h:zHI a b=(x,0)):vld a=true/\vld b=true/\zCP a (zEL b)=(x,0):=by
 unfold zHI at h
 split at h
 ·rename_i hv
  refine ⟨hv.1,hv.2,?_⟩;unfold zCP;rw [if_pos ⟨hv.1,zJE hv.2⟩];exact h
 ·have:=(Prod.mk.inj h).2;omega
theorem zPN {a b x:Dy}(hL:zAV a.l) (hL':zAV b.l) (h:zHI a b=(x,0)):vld a=true/\vld b=true/\vld x=true/\zAV x.l/\∀K,40000<=K->zd K x=zd K a - zd K b:=by
 obtain ⟨hv,hv',h⟩:=zPM h;obtain ⟨_,_,g1,g2,g3⟩:=zFp hL (zOS hL') h;exact ⟨hv,hv',g1,g2,fun K hK=>by rw [g3 K hK,zVu hv'];omega⟩
theorem add_assoc_law {a b c x z l r:Dy}(ha:zAV a.l) (hb:zAV b.l) (hc:zAV c.l) (h1:zCP a b=(x,0)) (h2:zCP b c=(z,0)) (h3:zCP x c=(l,0)) (h4:zCP a z=(r,0)):l=r:=by
 obtain ⟨_,_,_,x4,x5⟩:=zFp ha hb h1;obtain ⟨_,_,_,z4,z5⟩:=zFp hb hc h2;obtain ⟨_,_,l3,l4,l5⟩:=zFp x4 hc h3;obtain ⟨_,_,r3,r4,r5⟩:=zFp ha z4 h4;refine zKX (K:=40000) (by omega) l4 r4 l3 r3 ?_;rw [l5 _ (Ya _),r5 _ (Ya _),x5 _ (Ya _),z5 _ (Ya _),Int.add_assoc]
def zLc (x y:Int):Int:=if x<y then -1 else if y<x then 1 else 0
theorem zSB {K P Q:Nat}{e:Int}:zCT (za K P e) (za K Q e)=zCT P Q:=by
 have hp:0<2^(e+(K:Int)).toNat:=Nat.pow_pos (by omega);unfold za;rcases Nat.lt_trichotomy P Q with h | h | h
 ·rw [zCL h,zCL (Nat.mul_lt_mul_of_pos_right h hp)]
 ·rw [h,zFT rfl,zFT rfl]
 ·rw [zDI h,zDI (Nat.mul_lt_mul_of_pos_right h hp)]
theorem zVt {K:Nat}{v u:Nat}{e e':Int}(h1:0<=e+(K:Int)) (h2:0<=e' + (K:Int)) (hu:0<u) (h:(zAT v:Int)+e<(zAT u:Int)+e'):za K v e<za K u e':=by
 have hp:0<2^(e+(K:Int)).toNat:=Nat.pow_pos (by omega);have a:=Nat.mul_lt_mul_of_pos_right (zBu v) hp;have b:=Nat.mul_le_mul_right (2^(e' + (K:Int)).toNat) (zDL u hu);have hb:=zCS u hu;rw [<- Nat.pow_add] at a b;have c:2^(zAT v+(e+(K:Int)).toNat)<=2^(zAT u - 1+(e' + (K:Int)).toNat):=Xg (by omega) (by omega);unfold za;omega
theorem zR4 {K:Nat}{d d':Dy}(h1:0<=d.e+(K:Int)) (h2:0<=d'.e+(K:Int)) (hp:0<val d.l) (hp':0<val d'.l):zHh d d' = zCT (za K (val d.l) d.e) (za K (val d'.l) d'.e):=by
 unfold zHh
 split
 ·rename_i h
  rw [zCL (zVt h1 h2 hp' h)]
 ·split
  ·rename_i h
   rw [zDI (zVt h2 h1 hp h)]
  ·rw [<- zSB (K:=K) (e:=min d.e d'.e),zJF _ _ _ _ (by omega),zJF _ _ _ _ (by omega),show min d.e d'.e+(((d.e - min d.e d'.e).toNat:Nat):Int)=d.e by omega,show min d.e d'.e+(((d'.e - min d.e d'.e).toNat:Nat):Int)=d'.e by omega]
theorem zA7 (x y:Int):(x<y/\zLc x y = -1)\/(y<x/\zLc x y=1)\/(x=y/\zLc x y=0):=by
 unfold zLc;by_cases h:x<y
 ·rw [if_pos h];exact .inl ⟨h,rfl⟩
 ·rw [if_neg h]
  by_cases h2:y<x
  ·rw [if_pos h2];exact .inr (.inl ⟨h2,rfl⟩)
  ·rw [if_neg h2];exact .inr (.inr ⟨by omega,rfl⟩)
theorem zHq (u v:Nat):(u<v/\zCT u v = -1)\/(v<u/\zCT u v=1)\/(u=v/\zCT u v=0):=by
 rcases Nat.lt_trichotomy u v with h | h | h
 ·exact .inl ⟨h,zCL h⟩
 ·exact .inr (.inr ⟨h,zFT h⟩)
 ·exact .inr (.inl ⟨h,zDI h⟩)
theorem zRm {K:Nat}{d:Dy}(hv:vld d=true):zBP d=zLc (zd K d) 0:=by
 obtain ⟨neg,l,x⟩:=d;unfold zBP;by_cases h:l=[]
 ·rw [if_neg (by simp [h]),zFM (d:=⟨neg,l,x⟩) h]
  rfl
 ·rw [if_pos ⟨hv,h⟩]
  have b:=zAU hv h;simp only at b;have p:=zHT (K:=K) (e:=x) (show 0<val l by omega);unfold zd;simp only;rcases zDU K neg (val l) x with ⟨n,e⟩ | ⟨n,e⟩ <;> rw [e,n] <;> rcases zA7 (zs K neg (val l) x) 0 with c | c | c <;> rw [e] at c <;> first | (exfalso;omega) | (rw [c.2];rfl)
theorem zSC {z z':Int}{u u':Nat}(hu:0<u) (hu':0<u') (h:z=u\/z = -(u:Int)) (h':z' = u'\/z' = -(u':Int)) :
  (if zLc z 0<zLc z' 0 then -1 else if zLc z' 0<zLc z 0 then 1 else if zLc z 0=0 then 0 else zLc z 0*zCT u u')=zLc z z':=by
 rcases zA7 z 0 with a | a | a <;> rcases zA7 z' 0 with b | b | b <;> rcases zA7 z z' with c | c | c <;> rcases zHq u u' with d | d | d <;>
  first | (exfalso;omega) | (rw [a.2,b.2,c.2,d.2];rfl) | (rw [a.2,b.2,c.2];rfl)
theorem zDH {K:Nat}{d d':Dy}(hK:16384<=K) (hv:vld d=true) (hv':vld d' = true):zCH d d' = zLc (zd K d) (zd K d'):=by
 unfold zCH;rw [if_pos ⟨hv,hv'⟩,zRm (K:=K) hv,zRm (K:=K) hv'];have x:=zCO hv;have x':=zCO hv';have hz:∀e:Dy,zd K e≠0->0<val e.l:=by
  intro e h0;rcases Xm (val e.l) with h | h
  ·exfalso;apply h0;unfold zd;rw [h];exact zFn _ _ _
  ·exact h
 by_cases hA:zd K d=0
 ·rw [hA]
  rcases zA7 0 (zd K d') with c | c | c <;> rcases zA7 (zd K d') 0 with b | b | b <;> first | (exfalso;omega) | (rw [b.2,c.2];rfl)
 by_cases hB:zd K d' = 0
 ·rw [hB]
  rcases zA7 (zd K d) 0 with c | c | c <;> first | (exfalso;omega) | (rw [c.2];rfl)
 have p:=hz d hA;have p':=hz d' hB;rw [zR4 (K:=K) (by omega) (by omega) p p'];refine zSC (zHT p) (zHT p') ?_ ?_
 ·rcases zDU K d.neg (val d.l) d.e with ⟨_,e⟩ | ⟨_,e⟩
  ·exact .inl e
  ·exact .inr e
 ·rcases zDU K d'.neg (val d'.l) d'.e with ⟨_,e⟩ | ⟨_,e⟩
  ·exact .inl e
  ·exact .inr e
theorem zLd (a b:Dy):zCH a b = -zCH b a/\-1<=zCH a b/\zCH a b<=1:=by
 by_cases hv:vld a=true/\vld b=true
 ·rw [zDH (K:=40000) (by omega) hv.1 hv.2,zDH (K:=40000) (by omega) hv.2 hv.1]
  generalize zd 40000 a=x;generalize zd 40000 b=y;rcases zA7 x y with h | h | h <;> rcases zA7 y x with h' | h' | h' <;> omega
 ·unfold zCH
  rw [if_neg hv,if_neg (fun h=>hv ⟨h.2,h.1⟩)];omega
theorem zJX {a b:Dy}(ha:zAV a.l) (hb:zAV b.l) (hv:vld a=true) (hv':vld b=true):(zCH a b == 0)=eqD a b:=by
 rw [Bool.eq_iff_iff,beq_iff_eq,zSG];rw [zDH (K:=40000) (by omega) hv hv'];constructor
 ·intro h
  refine zKX (K:=40000) (by omega) ha hb hv hv' ?_;rcases zA7 (zd 40000 a) (zd 40000 b) with h' | h' | h' <;> omega
 ·rintro rfl
  rcases zA7 (zd 40000 a) (zd 40000 a) with h' | h' | h' <;> omega
structure Var (W:World) (g:Nat) (neg:Bool) (A:Option Addr) (n c:Nat) (l:List Nat) (x:Int):Prop where
 blk:Blk W g 41 #[.bool neg,.slice A n c,.int .i64 x]
 sl:SL W A n c l
section
variable {W W':World}{g:Nat}{neg:Bool}{A:Option Addr}{n c:Nat}{l:List Nat}{x:Int}
theorem Var.next (h:Var W g neg A n c l x) (hb:Below W.heap.size W W'):Var W' g neg A n c l x:=⟨h.blk.below hb h.blk.lt,h.sl.below hb⟩
theorem Var.cells (h:Var W g neg A n c l x):W.cell? ⟨g,0,none⟩=some (.bool neg)/\W.cell? ⟨g,1,none⟩=some (.slice A n c)/\W.cell? ⟨g,2,none⟩=some (.int .i64 x):=h.blk.cells3
theorem Var.new (W:World) (neg:Bool) (x:Int) (h:SL W A n c l):Var (W.alloc (.cells #[.bool neg,.slice A n c,.int .i64 x] 41)) W.heap.size neg A n c l x:=⟨Blk.new W _ _,h.alloc _⟩
theorem Var.newAt (W:World) (neg:Bool) (x:Int) {g:Nat}(hg:g=W.heap.size) (h:SL W A n c l):Var (W.alloc (.cells #[.bool neg,.slice A n c,.int .i64 x] 41)) g neg A n c l x:=by
 subst hg;exact Var.new W neg x h
theorem Var.keep (h:Var W g neg A n c l x):∀V,Below W.heap.size W V->V.cell? ⟨g,0,none⟩=some (.bool neg)/\V.cell? ⟨g,1,none⟩=some (.slice A n c)/\V.cell? ⟨g,2,none⟩=some (.int .i64 x):=fun _ hV=>(h.next hV).cells
end
theorem zBw (W:World):Below W.heap.size W W.drew:=zAR (Yp _ _) 1
theorem zDE {d:Dy}(h:vld d=true):d.l.length<=256:=by
 by_cases hl:d.l=[]
 ·rw [hl];simp
 ·exact (zAU h hl).1
structure Iv where
 lo:Dy
 hi:Dy
 all:Bool
structure Fr where
 c:List Dy
 a:List (List Dy)
 r:List Iv
structure Lk where
 h:Dy
 tube:List Iv
 e:Fr
 v:List (List Dy)
structure Ct where
 prec:Int
 order:Int
 start:Fr
 links:List Lk
def zJM {α:Type}(R:World->List Value->α->Prop):Prop:=∀W W' vs x,R W vs x->Below W.heap.size W W'->R W' vs x
structure Sl {α:Type}(k:Nat) (R:World->List Value->α->Prop) (W:World) (A:Option Addr) (n c:Nat) (xs:List α):Prop where
 len:xs.length=n
 cap:n<=c
 max:c<=9223372036854775807
 at_:0<n->∃b off,A=some ⟨b,off,none⟩/\b<W.heap.size/\∀ (j:Nat) (x:α),xs[j]? = some x->∃vs,vs.length=k/\R W vs x/\∀ (i:Nat) (v:Value),vs[i]? = some v->W.cell? ⟨b,off+j*k+i,none⟩=some v
section
variable {α:Type}{k:Nat}{R:World->List Value->α->Prop}{W W':World}{A:Option Addr}{n c:Nat}{xs:List α}
theorem Sl.next (h:Sl k R W A n c xs) (hR:zJM R) (hb:Below W.heap.size W W'):Sl k R W' A n c xs:=
 ⟨h.len,h.cap,h.max,fun hn=>by
  obtain ⟨b,off,e,hlt,hc⟩:=h.at_ hn;refine ⟨b,off,e,Yh hlt hb.size,fun j x hx=>?_⟩;obtain ⟨vs,h1,h2,h3⟩:=hc j x hx;exact ⟨vs,h1,hR _ _ _ _ h2 hb,fun i v hv=>(hb.cell (p:=⟨b,off+j*k+i,none⟩) hlt).trans (h3 i v hv)⟩⟩
theorem Sl.nil (W:World):Sl k R W none 0 0 []:=⟨rfl,by omega,by omega,fun h=>absurd h (by omega)⟩
theorem Sl.get (h:Sl k R W A n c xs) {j:Nat}(hj:j<n):∃b off x vs,A=some ⟨b,off,none⟩/\b<W.heap.size/\xs[j]? = some x/\vs.length=k/\R W vs x/\∀ (i:Nat) (v:Value),vs[i]? = some v->W.cell? ⟨b,off+j*k+i,none⟩=some v:=by
 obtain ⟨b,off,e,hb,hc⟩:=h.at_ (by omega);have hl:j<xs.length:=by have:=h.len;omega
 obtain ⟨vs,h1,h2,h3⟩:=hc j _ (Yo hl);exact ⟨b,off,xs[j],vs,e,hb,Yo hl,h1,h2,h3⟩
theorem Sl.get' {b off:Nat}(h:Sl k R W (some ⟨b,off,none⟩) n c xs) {j:Nat}(hj:j<n):∃x vs,b<W.heap.size/\xs[j]? = some x/\vs.length=k/\R W vs x/\∀ (i:Nat) (v:Value),vs[i]? = some v->W.cell? ⟨b,off+j*k+i,none⟩=some v:=by
 obtain ⟨b',off',x,vs,e,r⟩:=h.get hj;injection e with e
 injection e with e1 e2
 subst e1 e2;exact ⟨x,vs,r⟩
end
def RD (W:World) (vs:List Value) (d:Dy):Prop:=∃A n c,vs=[.bool d.neg,.slice A n c,.int .i64 d.e]/\SL W A n c d.l
def RI (W:World) (vs:List Value) (x:Iv):Prop:=∃A n c B m d,vs=[.bool x.lo.neg,.slice A n c,.int .i64 x.lo.e,.bool x.hi.neg,.slice B m d,.int .i64 x.hi.e,.bool x.all]/\SL W A n c x.lo.l/\SL W B m d x.hi.l
def RM (W:World) (vs:List Value) (l:List Dy):Prop:=∃A n c,vs=[.slice A n c]/\Sl 3 RD W A n c l
def RF (W:World) (vs:List Value) (f:Fr):Prop:=∃A n c B m d C p q,vs=[.slice A n c,.slice B m d,.slice C p q]/\Sl 3 RD W A n c f.c/\Sl 1 RM W B m d f.a/\Sl 7 RI W C p q f.r
def RL (W:World) (vs:List Value) (x:Lk):Prop:=∃H hn hc T tn tc A n c B m d C p q V vn vc,vs=[.bool x.h.neg,.slice H hn hc,.int .i64 x.h.e,.slice T tn tc,.slice A n c,.slice B m d,.slice C p q,.slice V vn vc]/\
 SL W H hn hc x.h.l/\Sl 7 RI W T tn tc x.tube/\Sl 3 RD W A n c x.e.c/\Sl 1 RM W B m d x.e.a/\Sl 7 RI W C p q x.e.r/\Sl 1 RM W V vn vc x.v
def RC (W:World) (vs:List Value) (x:Ct):Prop:=∃A n c B m d C p q L ln lc,vs=[.int .i64 x.prec,.int .i64 x.order,.slice A n c,.slice B m d,.slice C p q,.slice L ln lc]/\
 Sl 3 RD W A n c x.start.c/\Sl 1 RM W B m d x.start.a/\Sl 7 RI W C p q x.start.r/\Sl 8 RL W L ln lc x.links
theorem zAQ:zJM RD:=by
 rintro W W' vs x ⟨A,n,c,e,h⟩ hb
 exact ⟨A,n,c,e,h.below hb⟩
theorem zAX:zJM RI:=by
 rintro W W' vs x ⟨A,n,c,B,m,d,e,h,h'⟩ hb
 exact ⟨A,n,c,B,m,d,e,h.below hb,h'.below hb⟩
theorem zAh:zJM RM:=by
 rintro W W' vs x ⟨A,n,c,e,h⟩ hb
 exact ⟨A,n,c,e,h.next zAQ hb⟩
theorem zBs:zJM RF:=by
 rintro W W' vs x ⟨A,n,c,B,m,d,C,p,q,e,h1,h2,h3⟩ hb
 exact ⟨A,n,c,B,m,d,C,p,q,e,h1.next zAQ hb,h2.next zAh hb,h3.next zAX hb⟩
theorem zBt:zJM RL:=by
 rintro W W' vs x ⟨H,hn,hc,T,tn,tc,A,n,c,B,m,d,C,p,q,V,vn,vc,e,h1,h2,h3,h4,h5,h6⟩ hb
 exact ⟨H,hn,hc,T,tn,tc,A,n,c,B,m,d,C,p,q,V,vn,vc,e,h1.below hb,h2.next zAX hb,h3.next zAQ hb,h4.next zAh hb,h5.next zAX hb,h6.next zAh hb⟩
theorem zAm:zJM RC:=by
 rintro W W' vs x ⟨A,n,c,B,m,d,C,p,q,L,ln,lc,e,h1,h2,h3,h4⟩ hb
 exact ⟨A,n,c,B,m,d,C,p,q,L,ln,lc,e,h1.next zAQ hb,h2.next zAh hb,h3.next zAX hb,h4.next zBt hb⟩
def zBW (b:Bool) (w:World) (e:Ending) (w':World):Prop:=e=.returned (.bool b)/\Below w.heap.size w w'
open Go.ChangeShapes Go.WideShapes Go.ChangeAt
theorem zUL {α:Type}{cs:List α}(h:cs.length=3):∃c0 c1 c2,cs=[c0,c1,c2]:=by
 match cs,h with
 | [c0,c1,c2],_=>exact ⟨c0,c1,c2,rfl⟩
theorem zcd {α:Type}{cs:List α}(h:cs.length=6):∃c0 c1 c2 c3 c4 c5,cs=[c0,c1,c2,c3,c4,c5]:=by
 match cs,h with
 | [c0,c1,c2,c3,c4,c5],_=>exact ⟨c0,c1,c2,c3,c4,c5,rfl⟩
theorem zce {α:Type}{cs:List α}(h:cs.length=7):∃c0 c1 c2 c3 c4 c5 c6,cs=[c0,c1,c2,c3,c4,c5,c6]:=by
 match cs,h with
 | [c0,c1,c2,c3,c4,c5,c6],_=>exact ⟨c0,c1,c2,c3,c4,c5,c6,rfl⟩
theorem zcf {α:Type}{cs:List α}(h:cs.length=8):∃c0 c1 c2 c3 c4 c5 c6 c7,cs=[c0,c1,c2,c3,c4,c5,c6,c7]:=by
 match cs,h with
 | [c0,c1,c2,c3,c4,c5,c6,c7],_=>exact ⟨c0,c1,c2,c3,c4,c5,c6,c7,rfl⟩
theorem zLA {α:Type}{p:Nat->α->Prop}:∀n,(∀i,i<n->∃d,p i d)->∃xs:List α,xs.length=n/\∀ (j:Nat) (x:α),xs[j]? = some x->p j x:=by
 intro n
 induction n with
 | zero=>intro _;exact ⟨[],rfl,fun j x h=>by simp at h⟩
 | succ n ih=>
  intro h;obtain ⟨xs,h1,h2⟩:=ih (fun i hi=>h i (by omega));obtain ⟨d,hd⟩:=h n (by omega);refine ⟨xs++[d],by simp [h1],fun j x hx=>?_⟩;by_cases hj:j<xs.length
  ·rw [Yw hj] at hx;exact h2 j x hx
  ·have hlt:=(Yb.1 hx).1
   simp at hlt;obtain rfl:j=n:=by omega
   rw [Yx (by omega),h1,Nat.sub_self] at hx;simp at hx;subst hx;exact hd
section
variable {H:Type}{enc:TypeId×Value->H}{W:World}
theorem zI5 {α:Type}{k:Nat}{R:World->List Value->α->Prop}{t e:TypeId}(ht:Tryz.prog.underlying t=some (.slice e)) (hk:Tryz.prog.cellsOf e=k) (hk0:0<k)
  (hR:∀ (fuel:Nat) (cs:List Value) (x:DataW H×List MemPlace),DataW.trod enc Tryz.prog W 0 (fun _=>true) true fuel e cs=some x->∃d,R W cs d)
  {fuel:Nat}{cs:List Value}{x:DataW H×List MemPlace}(h:DataW.trod enc Tryz.prog W 0 (fun _=>true) true fuel t cs=some x):∃A n c xs,cs=[.slice A n c]/\Sl k R W A n c xs:=by
 rcases Deep.open_slice ht h with ⟨rfl,_⟩ | ⟨a,len,cap,m,n,D,Pl,rfl,_,hl,hm,hmm,_,hx⟩
 ·exact ⟨_,_,_,[],rfl,Sl.nil W⟩
 ·rw [hk] at hx
  rw [if_pos rfl] at hmm;obtain ⟨xs,h1,h2⟩:=zLA (α:=α) (p:=fun i d=>∃cs',W.cells? 0 (a.add (i*k)) k=some cs'/\R W cs' d) len (fun i hi=>by
   obtain ⟨cs',h1,h2⟩:=hx i (by omega);obtain ⟨d,hd⟩:=hR _ _ _ h2;exact ⟨d,cs',h1,hd⟩)
  refine ⟨some a,len,cap,xs,rfl,⟨h1,hl,by simpa [maxLen] using hm,fun hn=>?_⟩⟩;obtain ⟨cs0,g1,_⟩:=hx 0 (by omega);have hblk:=World.cells?_block g1 hk0;obtain ⟨_,gl,gc⟩:=World.cells?_some g1;obtain ⟨b,off,spot⟩:=a;have hspot:spot=none:=by
   have h0:=gc 0 hk0;rw [Yo (by omega)] at h0
   simpa [Addr.add] using World.cell?_spot h0
  subst hspot;refine ⟨b,off,rfl,by simpa [Addr.add] using hblk,fun j d hj=>?_⟩;obtain ⟨cs',e1,e2⟩:=h2 j d hj;obtain ⟨_,el,ec⟩:=World.cells?_some e1;refine ⟨cs',el,e2,fun i v hi=>?_⟩;have hik:i<k:=by have:=(Yb.1 hi).1;omega
  have:=ec i hik;rw [hi,zMY,Go.WideShapes.add_plain,<- Nat.add_assoc] at this;exact this
theorem zTv:Tryz.prog.cellsOf 4=1:=by kernel_rfl
theorem zf1:Tryz.prog.cellsOf 3=1:=by kernel_rfl
theorem zTw:Tryz.prog.cellsOf 39=1:=by kernel_rfl
theorem zf0:Tryz.prog.cellsOf 22=1:=by kernel_rfl
theorem zf3:Tryz.prog.cellsOf 23=1:=by kernel_rfl
theorem zf2:Tryz.prog.cellsOf 24=1:=by kernel_rfl
theorem zhJ:Tryz.prog.cellsOf 27=1:=by kernel_rfl
theorem cIv:Tryz.prog.cellsOf 43=7:=by kernel_rfl
theorem cFr:Tryz.prog.cellsOf 26=3:=by kernel_rfl
theorem cLk:Tryz.prog.cellsOf 86=8:=by kernel_rfl
theorem cCt:Tryz.prog.cellsOf 29=6:=by kernel_rfl
theorem zI0 {fuel:Nat}{cs:List Value}{x:DataW H×List MemPlace}(h:DataW.trod enc Tryz.prog W 0 (fun _=>true) true fuel 41 cs=some x):∃d,RD W cs d:=by
 obtain ⟨y0,y1,y2,n,_,hl,h0,h1,h2⟩:=Deep.trod_struct3 Tryz.underlying41 h;rw [zJV] at hl;obtain ⟨c0,c1,c2,rfl⟩:=zUL hl;simp only [zTv,zf1,zTw,List.drop,List.take] at h0 h1 h2;obtain ⟨ng,rfl⟩:=zKp h0;obtain ⟨A,n,c,l,rfl,hS⟩:=zIG h1;obtain ⟨ex,rfl⟩:=zLh h2;exact ⟨⟨ng,l,ex⟩,A,n,c,rfl,hS⟩
theorem zS5 {fuel:Nat}{cs:List Value}{x:DataW H×List MemPlace}(h:DataW.trod enc Tryz.prog W 0 (fun _=>true) true fuel 43 cs=some x):∃d,RI W cs d:=by
 obtain ⟨y0,y1,y2,n,_,hl,h0,h1,h2⟩:=Deep.trod_struct3 Tryz.underlying43 h;rw [cIv] at hl;obtain ⟨c0,c1,c2,c3,c4,c5,c6,rfl⟩:=zce hl;simp only [zTv,zJV,List.drop,List.take] at h0 h1 h2;obtain ⟨d,A,n,c,e,hS⟩:=zI0 h0;obtain ⟨d',A',n',c',e',hS'⟩:=zI0 h1;obtain ⟨al,rfl⟩:=zKp h2;simp only [List.cons.injEq,and_true] at e e';obtain ⟨rfl,rfl,rfl⟩:=e;obtain ⟨rfl,rfl,rfl⟩:=e';exact ⟨⟨d,d',al⟩,A,n,c,A',n',c',rfl,hS,hS'⟩
theorem zMK {fuel:Nat}{cs:List Value}{x:DataW H×List MemPlace}(h:DataW.trod enc Tryz.prog W 0 (fun _=>true) true fuel 22 cs=some x):∃A n c xs,cs=[.slice A n c]/\Sl 3 RD W A n c xs:=
 zI5 Tryz.underlying22 zJV (by omega) (fun _ _ _ h=>zI0 h) h
theorem zS7 {fuel:Nat}{cs:List Value}{x:DataW H×List MemPlace}(h:DataW.trod enc Tryz.prog W 0 (fun _=>true) true fuel 22 cs=some x):∃d,RM W cs d:=by
 obtain ⟨A,n,c,xs,rfl,hS⟩:=zMK h;exact ⟨xs,A,n,c,rfl,hS⟩
theorem zMM {fuel:Nat}{cs:List Value}{x:DataW H×List MemPlace}(h:DataW.trod enc Tryz.prog W 0 (fun _=>true) true fuel 23 cs=some x):∃A n c xs,cs=[.slice A n c]/\Sl 1 RM W A n c xs:=
 zI5 Tryz.underlying23 zf0 (by omega) (fun _ _ _ h=>zS7 h) h
theorem zML {fuel:Nat}{cs:List Value}{x:DataW H×List MemPlace}(h:DataW.trod enc Tryz.prog W 0 (fun _=>true) true fuel 24 cs=some x):∃A n c xs,cs=[.slice A n c]/\Sl 7 RI W A n c xs:=
 zI5 Tryz.underlying24 cIv (by omega) (fun _ _ _ h=>zS5 h) h
theorem zOq {fuel:Nat}{cs:List Value}{x:DataW H×List MemPlace}(h:DataW.trod enc Tryz.prog W 0 (fun _=>true) true fuel 26 cs=some x):∃d,RF W cs d:=by
 obtain ⟨y0,y1,y2,n,_,hl,h0,h1,h2⟩:=Deep.trod_struct3 Tryz.underlying26 h;rw [cFr] at hl;obtain ⟨c0,c1,c2,rfl⟩:=zUL hl;simp only [zf0,zf3,zf2,List.drop,List.take] at h0 h1 h2;obtain ⟨A,n,c,xs,e,h1'⟩:=zMK h0;obtain ⟨B,m,d,ys,e',h2'⟩:=zMM h1;obtain ⟨C,p,q,zs,e'',h3'⟩:=zML h2;simp only [List.cons.injEq,and_true] at e e' e'';subst e e' e'';exact ⟨⟨xs,ys,zs⟩,A,n,c,B,m,d,C,p,q,rfl,h1',h2',h3'⟩
theorem zS6 {fuel:Nat}{cs:List Value}{x:DataW H×List MemPlace}(h:DataW.trod enc Tryz.prog W 0 (fun _=>true) true fuel 86 cs=some x):∃d,RL W cs d:=by
 obtain ⟨y0,y1,y2,y3,n,_,hl,h0,h1,h2,h3⟩:=Joins.trod_struct4 Tryz.underlying86 h;rw [cLk] at hl;obtain ⟨c0,c1,c2,c3,c4,c5,c6,c7,rfl⟩:=zcf hl;simp only [zJV,cFr,zf3,zf2,List.drop,List.take] at h0 h1 h2 h3;obtain ⟨d,Hh,hn,hc,e0,hS⟩:=zI0 h0;obtain ⟨T,tn,tc,ts,e1,hT⟩:=zML h1;obtain ⟨f,A,n,c,B,m,d',C,p,q,e2,f1,f2,f3⟩:=zOq h2;obtain ⟨V,vn,vc,vs,e3,hV⟩:=zMM h3;simp only [List.cons.injEq,and_true] at e0 e1 e2 e3;obtain ⟨rfl,rfl,rfl⟩:=e0;subst e1 e3;obtain ⟨rfl,rfl,rfl⟩:=e2;exact ⟨⟨d,ts,f,vs⟩,Hh,hn,hc,T,tn,tc,A,n,c,B,m,d',C,p,q,V,vn,vc,rfl,hS,hT,f1,f2,f3,hV⟩
theorem zQw {fuel:Nat}{cs:List Value}{x:DataW H×List MemPlace}(h:DataW.trod enc Tryz.prog W 0 (fun _=>true) true fuel 27 cs=some x):∃A n c xs,cs=[.slice A n c]/\Sl 8 RL W A n c xs:=
 zI5 Tryz.underlying27 cLk (by omega) (fun _ _ _ h=>zS6 h) h
theorem zS2 {fuel:Nat}{cs:List Value}{x:DataW H×List MemPlace}(h:DataW.trod enc Tryz.prog W 0 (fun _=>true) true fuel 29 cs=some x):∃d,RC W cs d:=by
 obtain ⟨y0,y1,y2,y3,n,_,hl,h0,h1,h2,h3⟩:=Joins.trod_struct4 Tryz.underlying29 h;rw [cCt] at hl;obtain ⟨c0,c1,c2,c3,c4,c5,rfl⟩:=zcd hl;simp only [zf1,cFr,zhJ,List.drop,List.take] at h0 h1 h2 h3;obtain ⟨pr,rfl⟩:=zLh h0;obtain ⟨od,rfl⟩:=zLh h1;obtain ⟨f,A,n,c,B,m,d',C,p,q,e2,f1,f2,f3⟩:=zOq h2;obtain ⟨V,vn,vc,vs,e3,hV⟩:=zQw h3;simp only [List.cons.injEq,and_true] at e2 e3;subst e3;obtain ⟨rfl,rfl,rfl⟩:=e2;exact ⟨⟨pr,od,f,vs⟩,A,n,c,B,m,d',C,p,q,V,vn,vc,rfl,f1,f2,f3,hV⟩
theorem zNs {b0:Nat}{v:Value}{d:DataW H}{p:List MemPlace}(hv:Value.okWide Tryz.prog W .any b0 29 v) (h:DataW.Trod enc Tryz.prog W 0 (fun _=>true) true 29 v d p) :
  ∃ (vs:List Value) (x:Ct),v=.agg vs.toArray/\RC W vs x:=by
 obtain ⟨cs,rfl,_⟩:=okWide_struct Tryz.underlying29 hv;obtain ⟨fuel,hf⟩:=h;obtain ⟨x,hx⟩:=zS2 hf;exact ⟨_,x,by simp [Value.cells],hx⟩
end
end Go.Proofs.YtchkfjgcbbbffaaGreatDoor
end
