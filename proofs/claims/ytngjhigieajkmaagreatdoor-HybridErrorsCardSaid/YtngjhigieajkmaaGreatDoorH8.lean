/- Bundle 8: what the law's walk stands on: E3, M8, C0, C1, K1, Q0, Q1, Q2, Q3. -/
import Derived.KernelRfl
import Derived.Lib.Builder
import Derived.Lib.AppendStr
import Derived.Lib.UnsafeStr
import Derived.Laws.Externs
import Derived.Deep.Slices
import Derived.Deep.Strs
import Derived.Orders
import GoSem.Step
import Derived.Test.YtngjhigieajkmaaGreatDoorH5
import Derived.Test.YtngjhigieajkmaaGreatDoorH6
import Derived.Test.YtngjhigieajkmaaGreatDoorH7
set_option maxRecDepth 100000
set_option maxHeartbeats 20000000
set_option linter.all false
noncomputable section
namespace Go.Proofs.YtngjhigieajkmaaGreatDoor
open Go.RowKit Pl Go.Shelf
def zHh (d d':Dy):Int:=if (zAT (val d.l):Int)+d.e<(zAT (val d'.l):Int)+d'.e then -1 else if (zAT (val d'.l):Int)+d'.e<(zAT (val d.l):Int)+d.e then 1 else
 zCT (val d.l*2^(d.e - min d.e d'.e).toNat) (val d'.l*2^(d'.e - min d.e d'.e).toNat)
def zCH (d d':Dy):Int:=if vld d=true/\vld d' = true then (if zBP d<zBP d' then -1 else if zBP d' < zBP d then 1 else if zBP d=0 then 0 else zBP d*zHh d d') else 0
theorem zKk (neg neg':Bool) (A B:Option Addr) (n c m d:Nat) (l l':List Nat) (x x':Int) (w:World) (h:SL w A n c l) (h':SL w B m d l')
  (hv:vld ⟨neg,l,x⟩=true) (hv':vld ⟨neg',l',x'⟩=true) (hne:n≠0) (hne':m≠0) :
  Calls Tryz.prog 47 #[.agg #[.bool neg,.slice A n c,.int .i64 x],.agg #[.bool neg',.slice B m d,.int .i64 x']] w fun e w'=>e=.returned (.int .i64 (zHh ⟨neg,l,x⟩ ⟨neg',l',x'⟩))/\Below w.heap.size w w':=by
 obtain ⟨mn,hmn⟩:∃mn,min x x' = mn:=⟨_,rfl⟩;obtain ⟨b1,b2,b3,b4,b5,b6,b7⟩:=zAU hv ((zAL h).2 hne);obtain ⟨b1',b2',b3',b4',b5',b6',b7'⟩:=zAU hv' ((zAL h').2 hne');have hn256:n<=256:=by rw [<- h.len];exact b1
 have hm256:m<=256:=by rw [<- h'.len];exact b1'
 have B3:=Zh b3;have B3':=Zh b3';have TT:Hid (zCU ⟨neg,l,x⟩=(zAT (val l):Int)+x):=by unfold Hid zCU;rw [if_pos ⟨hv,(zAL h).2 hne⟩]
 have TT':Hid (zCU ⟨neg',l',x'⟩=(zAT (val l'):Int)+x'):=by unfold Hid zCU;rw [if_pos ⟨hv',(zAL h').2 hne'⟩]
 have hm1:mn<=x:=by omega
 have hm2:mn<=x':=by omega
 have hm3:mn=x\/mn=x':=by omega
 simp only at b4 b5 b6 b7 b4' b5' b6' b7';have hm4:-16384<=mn:=by omega
 have HM3:=Zh hm3;have HMN:=Zh hmn;have HR:Hid (zHh ⟨neg,l,x⟩ ⟨neg',l',x'⟩=if (zAT (val l):Int)+x<(zAT (val l'):Int)+x' then -1 else if (zAT (val l'):Int)+x' < (zAT (val l):Int)+x then 1 else
   zCT (val l*2^(x - mn).toNat) (val l' * 2^(x' - mn).toNat)):=by unfold Hid zHh;rw [<- hmn]
 generalize zHh ⟨neg,l,x⟩ ⟨neg',l',x'⟩=r at *;clear b1 b1' b2 b2' b3 b3' hmn hv hv' hm3;go_enter Tryz.func47,Tryz.ntmps47
 go_wp2_with fail
 have k1:=(Blk.new w 30 #[.bool neg,.slice A n c,.int .i64 x]).alloc (.cells #[.bool neg',.slice B m d,.int .i64 x'] 30);have k2:=Blk.newAt (w.alloc (.cells #[.bool neg,.slice A n c,.int .i64 x] 30)) 30 #[.bool neg',.slice B m d,.int .i64 x'] (g:=w.heap.size+1) (by simp);have k5:=(zAE w (.cells #[.bool neg,.slice A n c,.int .i64 x] 30)).alloc (by simp) (.cells #[.bool neg',.slice B m d,.int .i64 x'] 30);have h1:=h.below k5;have h1':=h'.below k5;generalize (w.alloc (.cells #[.bool neg,.slice A n c,.int .i64 x] 30)).alloc (.cells #[.bool neg',.slice B m d,.int .i64 x'] 30)=W0 at *;obtain ⟨s0,s1,s2⟩:=k1.cells3;obtain ⟨t0,t1,t2⟩:=k2.cells3;have hg0:w.heap.size<W0.drew.heap.size:=k1.lt;have hg1:w.heap.size+1<W0.drew.heap.size:=k2.lt
 go_region_held3 (fun W=>W.cell? ⟨w.heap.size,0,none⟩=some (.bool neg)/\W.cell? ⟨w.heap.size,1,none⟩=some (.slice A n c)/\W.cell? ⟨w.heap.size,2,none⟩=some (.int .i64 x)/\W.cell? ⟨w.heap.size+1,0,none⟩=some (.bool neg')/\W.cell? ⟨w.heap.size+1,1,none⟩=some (.slice B m d)/\W.cell? ⟨w.heap.size+1,2,none⟩=some (.int .i64 x'))
  (first | exact ⟨s0,s1,s2,t0,t1,t2⟩ | exact zCn hbA hg0 hg1 ⟨s0,s1,s2,t0,t1,t2⟩ | exact zCn (zAA hbA hbB) hg0 hg1 ⟨s0,s1,s2,t0,t1,t2⟩)
  (first
   | (go_at_call 77; (with_reducible refine (zBB neg A n c l x _ h1.drew (by omega)).mono ?_);rintro e wA ⟨rfl,hbA⟩)
   | (go_at_call 77; (with_reducible refine (zBB neg' B m d l' x' _ (h1'.drew.below hbA) (by omega)).mono ?_);rintro e wB ⟨rfl,hbB⟩))
 rw [TT.out,TT'.out];have hbAB:=zAA hbA hbB;have k1B:=k1.drew.below hbAB hg0;have k2B:=k2.drew.below hbAB hg1;have hbw:Below w.heap.size w wB:=zAA (zAR k5 1) hbAB;have h2:=h1.drew.below hbAB;have h2':=h1'.drew.below hbAB;clear k1 k2 k5 h1 h1' s0 s1 s2 t0 t1 t2 hbA hbB hbAB TT TT' hg0 hg1;obtain ⟨s0,s1,s2⟩:=k1B.cells3;obtain ⟨t0,t1,t2⟩:=k2B.cells3;have hg0:w.heap.size<wB.drew.heap.size:=k1B.lt;have hg1:w.heap.size+1<wB.drew.heap.size:=k2B.lt;generalize hN1:zAT (val l)=N1 at *;generalize hN2:zAT (val l')=N2 at *;have HBN1:=Zh hN1;have HBN2:=Zh hN2;clear hN1 hN2;by_cases c1:(N1:Int)+x<(N2:Int)+x'
 ·have R1:Hid (r = -1):=by unfold Hid;rw [HR.out,if_pos c1]
  go_wp2_with fail
  go_ret;exact ⟨by rw [R1.out];rfl,hbw⟩
 by_cases c2:(N2:Int)+x' < (N1:Int)+x
 ·have R1:Hid (r=1):=by unfold Hid;rw [HR.out,if_neg c1,if_pos c2]
  go_wp2_with fail
  go_ret;exact ⟨by rw [R1.out];rfl,hbw⟩
 have q1e:∃q1:Nat,x - mn=(q1:Int):=⟨(x - mn).toNat,by omega⟩;have q2e:∃q2:Nat,x' - mn=(q2:Int):=⟨(x' - mn).toNat,by omega⟩;obtain ⟨q1,hq1⟩:=q1e;obtain ⟨q2,hq2⟩:=q2e;have hm3:=HM3.out;have hT1:N1+q1<=4097:=by omega
 have hT2:N2+q2<=4097:=by omega
 have hq1b:q1<=65536:=by omega
 have hq2b:q2<=65536:=by omega
 have P1:0<val l:=by have:=B3.out;omega
 have P2:0<val l':=by have:=B3'.out;omega
 have L1:Hid (zAT (val l*2^q1)=N1+q1):=by unfold Hid;rw [zAc _ _ P1,HBN1.out]
 have L2:Hid (zAT (val l' * 2^q2)=N2+q2):=by unfold Hid;rw [zAc _ _ P2,HBN2.out]
 have D1:Hid ((zAa (val l*2^q1)).length<=256):=Yq (zAP _ 129 (by rw [L1.out];omega)) (by omega);have D2:Hid ((zAa (val l' * 2^q2)).length<=256):=Yq (zAP _ 129 (by rw [L2.out];omega)) (by omega);have E1:Hid ((x - mn).toNat=q1):=by unfold Hid;omega
 have E2:Hid ((x' - mn).toNat=q2):=by unfold Hid;omega
 have HRR:Hid (r=zCT (val l*2^q1) (val l' * 2^q2)):=by unfold Hid;rw [HR.out,if_neg c1,if_neg c2,E1.out,E2.out]
 have W1:IntKind.i64.wrap (x - mn)=(q1:Int):=by rw [hq1];exact IntWalk.i64_in _ (by omega)
 have W2:IntKind.i64.wrap (x' - mn)=(q2:Int):=by rw [hq2];exact IntWalk.i64_in _ (by omega)
 clear hm3 hq1 hq2 P1 P2 HR;go_wp2_with fail
 rw [HMN.out]
 go_region_held3 (fun W=>W.cell? ⟨w.heap.size,1,none⟩=some (.slice A n c)/\W.cell? ⟨w.heap.size,2,none⟩=some (.int .i64 x)/\W.cell? ⟨w.heap.size+1,1,none⟩=some (.slice B m d)/\W.cell? ⟨w.heap.size+1,2,none⟩=some (.int .i64 x'))
  (first | exact ⟨s1,s2,t1,t2⟩ | exact zEf hbC hg0 hg1 ⟨s1,s2,t1,t2⟩ | exact zEf (zAA hbC hbD) hg0 hg1 ⟨s1,s2,t1,t2⟩ | exact zEf (zAR (zAA hbC hbD) q) hg0 hg1 ⟨s1,s2,t1,t2⟩)
  (first
   | (go_at_call 79; (with_reducible refine (zAs A n c q1 _ l _ h2.drew hn256 rfl hq1b D1.out).mono ?_);rintro e wC ⟨AC,nC,cC,rfl,hsC,hfC,hbC⟩)
   | (go_at_call 79; (with_reducible refine (zAs B m d q2 _ l' _ (h2'.drew.below hbC) hm256 rfl hq2b D2.out).mono ?_);rintro e wD ⟨AD,nD,cD,rfl,hsD,hfD,hbD⟩)
   | (go_at_call 78; (refine (zDN AC AD nC cC nD cD (zAa (val l*2^q1)) (zAa (val l' * 2^q2)) _ (hsC.below hbD) hsD).mono ?_);rw [zAH,zAH];rintro e wE ⟨rfl,q,rfl⟩))
 go_wp2_with fail
 go_ret;exact ⟨by rw [HRR.out];rfl,zAR (zAA (zAR hbw 1) (zAA hbC hbD)) q⟩
theorem zRk {neg:Bool}{w:World}{A:Option Addr}{n c:Nat}{l:List Nat}{x:Int}(h:SL w A n c l) (hs:zBP ⟨neg,l,x⟩≠0):n≠0:=by
 intro h0;apply hs
 unfold zBP;rw [if_neg (by rw [zAL h];exact fun h=>h.2 h0)]
theorem zFG (d:Dy):zBP d = -1\/zBP d=0\/zBP d=1:=by
 unfold zBP
 split
 ·split <;> simp
 ·simp
theorem zMi (a b:Nat):zCT a b = -1\/zCT a b=0\/zCT a b=1:=by
 unfold zCT
 split
 ·exact .inl rfl
 ·split
  ·exact .inr (.inr rfl)
  ·exact .inr (.inl rfl)
theorem zMX (d d':Dy):zHh d d' = -1\/zHh d d' = 0\/zHh d d' = 1:=by
 unfold zHh
 split
 ·simp
 ·split
  ·simp
  ·exact zMi _ _
theorem zLb (neg neg':Bool) (A B:Option Addr) (n c m d:Nat) (l l':List Nat) (x x':Int) (w:World) (h:SL w A n c l) (h':SL w B m d l') (hn:n<=1000000) (hm:m<=1000000) :
  Calls Tryz.prog 21 #[.agg #[.bool neg,.slice A n c,.int .i64 x],.agg #[.bool neg',.slice B m d,.int .i64 x']] w fun e w'=>e=.returned (.int .i64 (zCH ⟨neg,l,x⟩ ⟨neg',l',x'⟩))/\Below w.heap.size w w':=by
 have HR:Hid (zCH ⟨neg,l,x⟩ ⟨neg',l',x'⟩=if vld ⟨neg,l,x⟩=true/\vld ⟨neg',l',x'⟩=true then (if zBP ⟨neg,l,x⟩<zBP ⟨neg',l',x'⟩ then -1 else if zBP ⟨neg',l',x'⟩<zBP ⟨neg,l,x⟩ then 1 else if zBP ⟨neg,l,x⟩=0 then 0 else zBP ⟨neg,l,x⟩ * zHh ⟨neg,l,x⟩ ⟨neg',l',x'⟩) else 0):=rfl;generalize zCH ⟨neg,l,x⟩ ⟨neg',l',x'⟩=r at *;go_enter Tryz.func21,Tryz.ntmps21
 go_wp2_with fail
 have k1:=(Blk.new w 30 #[.bool neg,.slice A n c,.int .i64 x]).alloc (.cells #[.bool neg',.slice B m d,.int .i64 x'] 30);have k2:=Blk.newAt (w.alloc (.cells #[.bool neg,.slice A n c,.int .i64 x] 30)) 30 #[.bool neg',.slice B m d,.int .i64 x'] (g:=w.heap.size+1) (by simp);have k5:=(zAE w (.cells #[.bool neg,.slice A n c,.int .i64 x] 30)).alloc (by simp) (.cells #[.bool neg',.slice B m d,.int .i64 x'] 30);have h1:=h.below k5;have h1':=h'.below k5;generalize (w.alloc (.cells #[.bool neg,.slice A n c,.int .i64 x] 30)).alloc (.cells #[.bool neg',.slice B m d,.int .i64 x'] 30)=W0 at *;refine (zA4 neg A n c l x _ h1 (by omega)).mono ?_;rintro e w1 ⟨rfl,hb1⟩
 cases hv:vld ⟨neg,l,x⟩
 ·go_wp2_with fail
  go_ret;exact ⟨by rw [HR.out,hv];rfl,zAA k5 hb1⟩
 have HV:=Zh hv;clear hv;obtain ⟨t0,t1,t2⟩:=(k2.below hb1 k2.lt).cells3;go_wp2_with fail
 refine (zA4 neg' B m d l' x' _ (h1'.below hb1) (by omega)).mono ?_;rintro e w2 ⟨rfl,hb2⟩
 have hb02:=zAA hb1 hb2;cases hv':vld ⟨neg',l',x'⟩
 ·go_wp2_with fail
  go_ret;exact ⟨by rw [HR.out,hv'];simp,zAA k5 hb02⟩
 have HV':=Zh hv';clear hv';have k1B:=k1.below hb02 k1.lt;have k2B:=k2.below hb02 k2.lt;have h2:=h1.below hb02;have h2':=h1'.below hb02;have hbw2:=zAA k5 hb02;have HR2:Hid (r=if zBP ⟨neg,l,x⟩<zBP ⟨neg',l',x'⟩ then -1 else if zBP ⟨neg',l',x'⟩<zBP ⟨neg,l,x⟩ then 1 else if zBP ⟨neg,l,x⟩=0 then 0 else zBP ⟨neg,l,x⟩ * zHh ⟨neg,l,x⟩ ⟨neg',l',x'⟩):=by
  unfold Hid;rw [HR.out,if_pos ⟨HV.out,HV'.out⟩]
 clear k1 k2 k5 h1 h1' hb1 hb2 hb02 t0 t1 t2 HR;obtain ⟨s0,s1,s2⟩:=k1B.cells3;obtain ⟨t0,t1,t2⟩:=k2B.cells3;have hg0:w.heap.size<w2.drew.heap.size:=k1B.lt;have hg1:w.heap.size+1<w2.drew.heap.size:=k2B.lt;have sc:=zFG ⟨neg,l,x⟩;have sc':=zFG ⟨neg',l',x'⟩;have HNE:Hid (zBP ⟨neg,l,x⟩≠0->n≠0):=fun hs=>zRk h hs
 have HNE':Hid (zBP ⟨neg',l',x'⟩≠0->m≠0):=fun hs=>zRk h' hs
 have HA:=Zh (zMX ⟨neg,l,x⟩ ⟨neg',l',x'⟩);generalize hS:zBP ⟨neg,l,x⟩=S at *;generalize hS':zBP ⟨neg',l',x'⟩=S' at *;have HS:=Zh hS;have HS':=Zh hS';clear hS hS';go_wp2_with fail
 go_region_held3 (fun W=>W.cell? ⟨w.heap.size,0,none⟩=some (.bool neg)/\W.cell? ⟨w.heap.size,1,none⟩=some (.slice A n c)/\W.cell? ⟨w.heap.size,2,none⟩=some (.int .i64 x)/\W.cell? ⟨w.heap.size+1,0,none⟩=some (.bool neg')/\W.cell? ⟨w.heap.size+1,1,none⟩=some (.slice B m d)/\W.cell? ⟨w.heap.size+1,2,none⟩=some (.int .i64 x'))
  (first | exact ⟨s0,s1,s2,t0,t1,t2⟩ | exact zCn hbA hg0 hg1 ⟨s0,s1,s2,t0,t1,t2⟩ | exact zCn (zAA hbA hbB) hg0 hg1 ⟨s0,s1,s2,t0,t1,t2⟩)
  (first
   | (go_at_call 20; (with_reducible refine (zFH neg A n c l x _ h2.drew (by omega)).mono ?_);rw [HS.out];rintro e wA ⟨rfl,hbA⟩)
   | (go_at_call 20; (with_reducible refine (zFH neg' B m d l' x' _ (h2'.drew.below hbA) (by omega)).mono ?_);rw [HS'.out];rintro e wB ⟨rfl,hbB⟩))
 have hbAB:=zAA hbA hbB;have k1C:=k1B.drew.below hbAB hg0;have k2C:=k2B.drew.below hbAB hg1;have hbw:Below w.heap.size w wB:=zAA (zAR hbw2 1) hbAB;have h3:=h2.drew.below hbAB;have h3':=h2'.drew.below hbAB;clear k1B k2B h2 h2' s0 s1 s2 t0 t1 t2 hbA hbB hbAB hg0 hg1 hbw2 HS HS';obtain ⟨s0,s1,s2⟩:=k1C.cells3;obtain ⟨t0,t1,t2⟩:=k2C.cells3;by_cases c1:S<S'
 ·have R1:Hid (r = -1):=by unfold Hid;rw [HR2.out,if_pos c1]
  go_wp2_with fail
  go_ret;exact ⟨by rw [R1.out];rfl,hbw⟩
 by_cases c2:S' < S
 ·have R1:Hid (r=1):=by unfold Hid;rw [HR2.out,if_neg c1,if_pos c2]
  go_wp2_with fail
  go_ret;exact ⟨by rw [R1.out];rfl,hbw⟩
 obtain rfl:S' = S:=by omega
 by_cases c3:S' = 0
 ·subst c3
  have R1:Hid (r=0):=by unfold Hid;rw [HR2.out];rfl
  go_wp2_with fail
  go_ret;exact ⟨by rw [R1.out];rfl,hbw⟩
 ·have c4:(S' == 0)=false:=by simp;omega
  have HRR:Hid (r=S' * zHh ⟨neg,l,x⟩ ⟨neg',l',x'⟩):=by unfold Hid;rw [HR2.out,if_neg c1,if_neg c2,if_neg c3]
  clear HR2;go_wp2_with fail
  refine (zKk neg neg' A B n c m d l l' x x' _ h3 h3' HV.out HV'.out (HNE.out c3) (HNE'.out c3)).mono ?_;rintro e w5 ⟨rfl,hb5⟩
  have ha:=HA.out;generalize zHh ⟨neg,l,x⟩ ⟨neg',l',x'⟩=ac at *;have hw:IntKind.i64.wrap (S' * ac)=S' * ac:=by
   rcases sc with rfl | rfl | rfl <;> rcases ha with rfl | rfl | rfl <;> rfl
  go_wp2_with fail
  go_ret;exact ⟨by rw [HRR.out];first | rfl | (simp only [hw];rfl),zAA hbw hb5⟩
def za (K v:Nat) (e:Int):Nat:=v*2^(e+(K:Int)).toNat
def zs (K:Nat) (neg:Bool) (v:Nat) (e:Int):Int:=if neg then -(za K v e:Int) else (za K v e:Int)
def zJM {α:Type}(R:World->List Value->α->Prop):Prop:=∀W W' vs x,R W vs x->Below W.heap.size W W'->R W' vs x
structure Sl {α:Type}(k:Nat) (R:World->List Value->α->Prop) (W:World) (A:Option Addr) (n c:Nat) (xs:List α):Prop where
 len:xs.length=n
 cap:n<=c
 max:c<=9223372036854775807
 at_:0<n->∃b off,A=some ⟨b,off,none⟩/\b<W.heap.size/\∀ (j:Nat) (x:α),xs[j]? = some x->∃vs,vs.length=k/\R W vs x/\∀ (i:Nat) (v:Value),vs[i]? = some v->W.cell? ⟨b,off+j*k+i,none⟩=some v
section
variable {α:Type}{k:Nat}{R:World->List Value->α->Prop}{W W':World}{A:Option Addr}{n c:Nat}{xs:List α}
theorem Sl.next (h:Sl k R W A n c xs) (hR:zJM R) (hb:Below W.heap.size W W'):Sl k R W' A n c xs:=
 ⟨h.len,h.cap,h.max,fun hn=>by
  obtain ⟨b,off,e,hlt,hc⟩:=h.at_ hn;refine ⟨b,off,e,Yh hlt hb.size,fun j x hx=>?_⟩;obtain ⟨vs,h1,h2,h3⟩:=hc j x hx;exact ⟨vs,h1,hR _ _ _ _ h2 hb,fun i v hv=>(hb.cell (p:=⟨b,off+j*k+i,none⟩) hlt).trans (h3 i v hv)⟩⟩
theorem Sl.nil (W:World):Sl k R W none 0 0 []:=⟨rfl,by omega,by omega,fun h=>absurd h (by omega)⟩
theorem Sl.empty (h:Sl k R W A n c xs) (h0:n=0):xs=[]:=List.eq_nil_of_length_eq_zero (by rw [h.len,h0])
theorem Sl.get (h:Sl k R W A n c xs) {j:Nat}(hj:j<n):∃b off x vs,A=some ⟨b,off,none⟩/\b<W.heap.size/\xs[j]? = some x/\vs.length=k/\R W vs x/\∀ (i:Nat) (v:Value),vs[i]? = some v->W.cell? ⟨b,off+j*k+i,none⟩=some v:=by
 obtain ⟨b,off,e,hb,hc⟩:=h.at_ (by omega);have hl:j<xs.length:=by have:=h.len;omega
 obtain ⟨vs,h1,h2,h3⟩:=hc j _ (Yo hl);exact ⟨b,off,xs[j],vs,e,hb,Yo hl,h1,h2,h3⟩
theorem Sl.get' {b off:Nat}(h:Sl k R W (some ⟨b,off,none⟩) n c xs) {j:Nat}(hj:j<n):∃x vs,b<W.heap.size/\xs[j]? = some x/\vs.length=k/\R W vs x/\∀ (i:Nat) (v:Value),vs[i]? = some v->W.cell? ⟨b,off+j*k+i,none⟩=some v:=by
 obtain ⟨b',off',x,vs,e,r⟩:=h.get hj;injection e with e
 injection e with e1 e2
 subst e1 e2;exact ⟨x,vs,r⟩
end
def zBW (b:Bool) (w:World) (e:Ending) (w':World):Prop:=e=.returned (.bool b)/\Below w.heap.size w w'
def RD (W:World) (vs:List Value) (d:Dy):Prop:=∃A n c,vs=[.bool d.neg,.slice A n c,.int .i64 d.e]/\SL W A n c d.l
theorem zAQ:zJM RD:=by
 rintro W W' vs x ⟨A,n,c,e,h⟩ hb
 exact ⟨A,n,c,e,h.below hb⟩
open Go.ChangeShapes Go.WideShapes Go.ChangeAt
theorem zUL {α:Type}{cs:List α}(h:cs.length=3):∃c0 c1 c2,cs=[c0,c1,c2]:=by
 match cs,h with
 | [c0,c1,c2],_=>exact ⟨c0,c1,c2,rfl⟩
theorem zcd {α:Type}{cs:List α}(h:cs.length=6):∃c0 c1 c2 c3 c4 c5,cs=[c0,c1,c2,c3,c4,c5]:=by
 match cs,h with
 | [c0,c1,c2,c3,c4,c5],_=>exact ⟨c0,c1,c2,c3,c4,c5,rfl⟩
theorem zce {α:Type}{cs:List α}(h:cs.length=7):∃c0 c1 c2 c3 c4 c5 c6,cs=[c0,c1,c2,c3,c4,c5,c6]:=by
 match cs,h with
 | [c0,c1,c2,c3,c4,c5,c6],_=>exact ⟨c0,c1,c2,c3,c4,c5,c6,rfl⟩
theorem zcf {α:Type}{cs:List α}(h:cs.length=8):∃c0 c1 c2 c3 c4 c5 c6 c7,cs=[c0,c1,c2,c3,c4,c5,c6,c7]:=by
 match cs,h with
 | [c0,c1,c2,c3,c4,c5,c6,c7],_=>exact ⟨c0,c1,c2,c3,c4,c5,c6,c7,rfl⟩
theorem zLA {α:Type}{p:Nat->α->Prop}:∀n,(∀i,i<n->∃d,p i d)->∃xs:List α,xs.length=n/\∀ (j:Nat) (x:α),xs[j]? = some x->p j x:=by
 intro n
 induction n with
 | zero=>intro _;exact ⟨[],rfl,fun j x h=>by simp at h⟩
 | succ n ih=>
  intro h;obtain ⟨xs,h1,h2⟩:=ih (fun i hi=>h i (by omega));obtain ⟨d,hd⟩:=h n (by omega);refine ⟨xs++[d],by simp [h1],fun j x hx=>?_⟩;by_cases hj:j<xs.length
  ·rw [Yw hj] at hx;exact h2 j x hx
  ·have hlt:=(Yb.1 hx).1
   simp at hlt;obtain rfl:j=n:=by omega
   rw [Yx (by omega),h1,Nat.sub_self] at hx;simp at hx;subst hx;exact hd
section
variable {H:Type}{enc:TypeId×Value->H}{W:World}
theorem zTv:Tryz.prog.cellsOf 4=1:=by kernel_rfl
theorem zf1:Tryz.prog.cellsOf 3=1:=by kernel_rfl
theorem zTw:Tryz.prog.cellsOf 28=1:=by kernel_rfl
theorem zI0 {fuel:Nat}{cs:List Value}{x:DataW H×List MemPlace}(h:DataW.trod enc Tryz.prog W 0 (fun _=>true) true fuel 30 cs=some x):∃d,RD W cs d:=by
 obtain ⟨y0,y1,y2,n,_,hl,h0,h1,h2⟩:=Deep.trod_struct3 Tryz.underlying30 h;rw [zJV] at hl;obtain ⟨c0,c1,c2,rfl⟩:=zUL hl;simp only [zTv,zf1,zTw,List.drop,List.take] at h0 h1 h2;obtain ⟨ng,rfl⟩:=zKp h0;obtain ⟨A,n,c,l,rfl,hS⟩:=zIG h1;obtain ⟨ex,rfl⟩:=zLh h2;exact ⟨⟨ng,l,ex⟩,A,n,c,rfl,hS⟩
end
open Go
def ztG (ops ops':Array Oper):Prop:=
 (∀ (P:Program) (Q:Exit->Act->World->Prop) (a:Act) (w:World),wpAny P .any ops' Q ops'.size (Array.replicate ops'.size false) a w->wpAny P .any ops Q ops.size (Array.replicate ops.size false) a w)/\
 ∀o' ∈ ops'.toList,∃o∈ops.toList,o'.dst=o.dst
def rmO (π:List Nat) (o:Oper):Oper:=⟨o.dst,o.op,o.type,o.pos,o.after.map fun e=>⟨π.getD e.on 0,e.ground⟩,none⟩
def zsD (σ π:List Nat) (ops:Array Oper):Array Oper:=(σ.map fun i=>rmO π (ops.toList.getD i default)).toArray
def zty (σ π:List Nat) (ops:Array Oper):Bool:=
 σ.length == ops.size && π.length == ops.size && (List.range ops.size).all (fun i=>Nat.blt (π.getD i 0) ops.size && σ.getD (π.getD i 0) 0 == i && Nat.blt (σ.getD i 0) ops.size && π.getD (σ.getD i 0) 0 == i) &&
  ops.toList.all fun o=>o.guard.isNone && o.after.toList.all fun e=>Nat.blt e.on ops.size
theorem zq5 {md:Region.Mode}{ops:Array Oper}{l:Array Bool}{i:Nat}:i∈Region.ready md ops l ↔ ∃o,ops[i]? = some o/\l.getD i true=false/\(∀e∈o.after.toList,(!Region.binds md e || l.getD e.on false)=true):=by
 unfold Region.ready;rw [List.mem_filter,List.mem_range];constructor
 ·rintro ⟨hi,h⟩
  simp only [Yi,Bool.not_eq_true'] at h;obtain ⟨h1,h2⟩:=h;have ho:ops[i]? = some ops[i]:=Array.getElem?_eq_getElem hi;rw [ho] at h2;refine ⟨_,ho,h1,fun e he=>?_⟩;simp only [Option.map_some,Option.getD_some] at h2;have:=Array.all_eq_true.1 h2;obtain ⟨j,hj,rfl⟩:=List.getElem_of_mem he;exact this j (by simpa using hj)
 ·rintro ⟨o,ho,h1,h2⟩
  obtain ⟨hi,_⟩:=Yv.1 ho;refine ⟨hi,?_⟩;rw [ho];simp only [Yi,Bool.not_eq_true',h1,true_and,Option.map_some,Option.getD_some];rw [Array.all_eq_true];intro j hj;exact h2 _ (by simp)
section
variable {P:Program}{Q:Exit->Act->World->Prop}{md:Region.Mode}{ops ops':Array Oper}{σ π:Nat->Nat}{m:Nat}
theorem ztE (hm:ops.size=m) (hm':ops'.size=m) (hπ:∀i,i<m->π i<m/\σ (π i)=i) (hσ:∀i,i<m->σ i<m/\π (σ i)=i)
  (ho:∀i o,ops[i]? = some o->o.guard=none/\(∀e∈o.after.toList,e.on<m)/\∃o',ops'[π i]? = some o'/\o'.guard=none/\o'.dst=o.dst/\o'.op=o.op/\o'.type=o.type/\o'.pos=o.pos/\o'.after.toList=o.after.toList.map fun e=>⟨π e.on,e.ground⟩) :
  ∀ (fuel:Nat) (l l':Array Bool) (a:Act) (w:World),l.size=m->l'.size=m->(∀i,i<m->l'.getD (π i) false=l.getD i false)->wpAny P md ops' Q fuel l' a w->wpAny P md ops Q fuel l a w:=by
 have tf:∀ (l:Array Bool) i,i<l.size->l.getD i true=l.getD i false:=fun l i h=>by simp [Array.getD,h]
 have rdy:∀ (l l':Array Bool),l.size=m->l'.size=m->(∀i,i<m->l'.getD (π i) false=l.getD i false)->∀i,i<m->(i∈Region.ready md ops l ↔ π i∈Region.ready md ops' l'):=by
  intro l l' hl hl' hr i hi;have h0:ops[i]? = some ops[i]:=Array.getElem?_eq_getElem (by omega);obtain ⟨_,hon,o',h1,_,_,_,_,_,haft⟩:=ho i _ h0;rw [zq5,zq5];have e1:l'.getD (π i) true=l.getD i true:=by rw [tf _ _ (by have:=(hπ i hi).1;omega),tf _ _ (by omega),hr i hi]
  constructor
  ·rintro ⟨o,h2,h3,h4⟩
   rw [h0] at h2;injection h2 with h2;subst h2
   refine ⟨o',h1,by rw [e1];exact h3,fun e he=>?_⟩;rw [haft] at he;obtain ⟨e0,he0,rfl⟩:=List.mem_map.1 he;have:=h4 e0 he0;rw [hr _ (hon e0 he0)];exact this
  ·rintro ⟨o,h2,h3,h4⟩
   rw [h1] at h2;injection h2 with h2;subst h2
   refine ⟨_,h0,by rw [<- e1];exact h3,fun e he=>?_⟩;have:=h4 ⟨π e.on,e.ground⟩ (by rw [haft];exact List.mem_map.2 ⟨e,he,rfl⟩);rw [hr _ (hon e he)] at this;exact this
 have nil:∀ (l l':Array Bool),l.size=m->l'.size=m->(∀i,i<m->l'.getD (π i) false=l.getD i false)->Region.ready md ops l=[]->Region.ready md ops' l' = []:=by
  intro l l' hl hl' hr h;cases h2:Region.ready md ops' l' with
  | nil=>rfl
  | cons k ks=>
   have hk:k∈Region.ready md ops' l':=by rw [h2];exact List.mem_cons_self
   obtain ⟨o,h3,_,_⟩:=zq5.1 hk;have hkm:k<m:=by have:=(Yv.1 h3).1;omega
   have:=(rdy l l' hl hl' hr (σ k) (hσ k hkm).1).2 (by rw [(hσ k hkm).2];exact hk);rw [h] at this;cases this
 have opEq:∀i,i<m->∀K a w,wpOp P ops' Q (π i) K a w->wpOp P ops Q i K a w:=by
  intro i hi K a w h;have h0:ops[i]? = some ops[i]:=Array.getElem?_eq_getElem (by omega);obtain ⟨hg,_,o',h1,hg',hd,hop,ht,hp,_⟩:=ho i _ h0;unfold wpOp at h ⊢;rw [h1] at h;rw [h0];generalize ops[i]=o at *;obtain ⟨d,op,ty,ps,af,gu⟩:=o;obtain ⟨d',op',ty',ps',af',gu'⟩:=o';dsimp only at hd hop ht hp hg hg';subst hd hop ht hp hg hg';exact h
 intro fuel
 induction fuel with
 | zero=>
  intro l l' a w hl hl' hr h;refine ⟨?_,h.2⟩;cases h2:Region.ready md ops l with
  | nil=>rfl
  | cons k ks=>
   have hk:k∈Region.ready md ops l:=by rw [h2];exact List.mem_cons_self
   obtain ⟨o,h3,_,_⟩:=zq5.1 hk;have:=(rdy l l' hl hl' hr k (by have:=(Yv.1 h3).1;omega)).1 hk;rw [h.1] at this;cases this
 | succ fuel ih=>
  intro l l' a w hl hl' hr h;refine ⟨fun h0=>h.1 (nil l l' hl hl' hr h0),fun i hi=>?_⟩;obtain ⟨o,h3,_,_⟩:=zq5.1 hi;have him:i<m:=by have:=(Yv.1 h3).1;omega
  refine opEq i him _ _ _ (wpOp_mono (fun a w hh=>ih _ _ a w (by simpa using hl) (by simpa using hl') ?_ hh) (h.2 (π i) ((rdy l l' hl hl' hr i him).1 hi)));intro j hj;have hij:π i=π j ↔ i=j:=⟨fun e=>by have:=congrArg σ e;rwa [(hπ i him).2,(hπ j hj).2] at this,fun e=>by rw [e]⟩;have:=hr j hj;simp only [Array.getD_eq_getD_getElem?,Array.getElem?_setIfInBounds] at this ⊢;have h5:π i<l'.size:=by rw [hl'];exact (hπ i him).1
  have h6:i<l.size:=by omega
  by_cases e:i=j
  ·subst e;simp [h5,h6]
  ·rw [if_neg e,if_neg (fun h=>e (hij.1 h))];exact this
end
theorem ztz {ops:Array Oper}(σ π:List Nat) (h:zty σ π ops=true):ztG ops (zsD σ π ops):=by
 unfold zty at h;simp only [Yi,beq_iff_eq,List.all_eq_true,List.mem_range,Nat.blt_eq,Option.isNone_iff_eq_none] at h;obtain ⟨⟨⟨h1,h2⟩,h3⟩,h4⟩:=h;have hs:(zsD σ π ops).size=ops.size:=by simp [zsD,h1]
 refine ⟨fun P Q a w hh=>?_,fun o' ho'=>?_⟩
 ·rw [hs] at hh
  refine ztE (ops':=zsD σ π ops) (σ:=fun i=>σ.getD i 0) (π:=fun i=>π.getD i 0) (m:=ops.size) rfl hs (fun i hi=>⟨(h3 i hi).1.1.1,(h3 i hi).1.1.2⟩) (fun i hi=>⟨(h3 i hi).1.2,(h3 i hi).2⟩) ?_ ops.size _ _ a w (by simp) (by simp) ?_ hh
  ·intro i o ho
   have hi:=(Yv.1 ho).1;have hm:o∈ops.toList:=by
    obtain ⟨hi,rfl⟩:=Yv.1 ho;simp
   obtain ⟨g1,g2⟩:=h4 o hm;refine ⟨g1,g2,rmO π o,?_,rfl,rfl,rfl,rfl,rfl,by simp [rmO]⟩;have k1:=(h3 i hi).1.1.1;have k2:=(h3 i hi).1.1.2;unfold zsD;rw [List.getElem?_toArray,List.getElem?_map];have:σ[π.getD i 0]? = some i:=by
    rw [Yo (by omega)];rw [List.getD_eq_getElem?_getD,Yo (by omega:π.getD i 0<σ.length)] at k2
    simpa using k2
   rw [this]
   show some (rmO π (ops.toList.getD i default))=_
   rw [List.getD_eq_getElem?_getD,Array.getElem?_toList,ho];rfl
  ·intro i hi
   have k1:=(h3 i hi).1.1.1;simp only [Array.getD,Array.size_replicate];rw [dif_pos k1,dif_pos hi];simp
 ·unfold zsD at ho'
  simp only [List.mem_map] at ho';obtain ⟨i,hi,rfl⟩:=ho';obtain ⟨k,hk,rfl⟩:=List.getElem_of_mem hi;have k1:=(h3 k (by omega)).1.2;have e:σ.getD k 0=σ[k]:=by simp [List.getD_eq_getElem?_getD,hk]
  rw [e] at k1;refine ⟨ops[σ[k]],by simp,?_⟩;have:ops.toList.getD σ[k] default=ops[σ[k]]:=by simp [List.getD_eq_getElem?_getD,k1]
  rw [this];rfl
inductive AV where
 | i (k:IntKind) (n:Int)
 | b (t:Bool)
 | v (x:Value)
 | lim (n:Nat)
 | fsl (cells:List AV) (len:Nat)
 | fpt (cells:List AV)
 | sl (id off len k:Nat) (cap:Option Nat)
 | ptr (id off:Nat)
 | map (id:Nat)
 | agg (cs:List AV)
 | tup (vs:List AV)
 | fn (f:FuncId) (caps:List AV)
 | ifc (t:Nat) (x:AV)
 | any
inductive HB where
 | cells (cs:List AV)
 | map (es:List (AV×AV))
abbrev Hp:=List (Nat×HB)
abbrev Tm:=List (Nat×AV)
def look (l:Tm) (k:Nat):AV:=
 List.rec (motive:=fun _=>AV) .any (fun p _ ih=>Prod.rec (fun i v=>Bool.rec ih v (Nat.beq i k)) p) l
def hget (H:Hp) (k:Nat):Option HB:=
 List.rec (motive:=fun _=>Option HB) none (fun p _ ih=>Prod.rec (fun i v=>Bool.rec ih (some v) (Nat.beq i k)) p) H
def zK1 (H:Hp) (k:Nat) (x:HB):Hp:=
 List.rec (motive:=fun _=>Hp) [] (fun p r ih=>Prod.rec (fun i v=>Bool.rec ((i,v)::ih) ((i,x)::r) (Nat.beq i k)) p) H
def zPj (H:Hp) (k:Nat):Hp:=
 List.rec (motive:=fun _=>Hp) [] (fun p r ih=>Prod.rec (fun i v=>Bool.rec ((i,v)::ih) r (Nat.beq i k)) p) H
def zKz (H:Hp) (n:Nat):Hp:=
 List.rec (motive:=fun _=>Hp) [] (fun p r ih=>Bool.rec (p::r) ih (Nat.ble n p.1)) H
def zDo (H:Hp) (n:Nat) (l:List Nat):Hp:=
 List.rec (motive:=fun _=>Hp) [] (fun p r ih=>Bool.rec (p::r) (Bool.rec ih (p::ih) (List.rec false (fun a _ ih=>Bool.rec ih true (Nat.beq a p.1)) l)) (Nat.ble n p.1)) H
inductive PT (α:Type) where
 | lf
 | nd (v:α) (l r:PT α)
def PT.get {α:Type}(d:α) (t:PT α):Nat->α:=
 PT.rec (motive:=fun _=>Nat->α) (fun _=>d) (fun v _ _ ihl ihr n=>Bool.rec (Bool.rec (ihr (Nat.sub (Nat.div n 2) 1)) (ihl (Nat.div n 2)) (Nat.beq (Nat.land n 1) 1)) v (Nat.beq n 0)) t
inductive TC where
 | other | bool | int (k:IntKind) | str | ptr | fnc
 | slice (e:Nat) | arr (n e:Nat) | map (k e:Nat)
 | ptrM (ms:List (String×Nat))
 | struct (fs:List (Nat×Nat×Bool))
structure TI where
 c:TC
 size:Nat
 bytes:Nat
 zero:List AV
 eq:Bool
inductive RV where
 | fail
 | ok (v:AV) (H:Hp) (n:Nat)
inductive Ex where
 | nrm | ret
 | exit (id:Nat)
inductive Res where
 | fail
 | ok (x:Ex) (T:Tm) (H:Hp) (n:Nat)
abbrev zAz:=Hp->List AV->Option AV
structure ME where
 k:Nat
 paths:List (Option Nat×Nat)
 args:List AV
 H:Hp
 v:AV
 new:Hp
 n':Nat
structure Env where
 ti:PT (Option TI)
def ofV (x:Value):AV:=
 match x with
 | .int k n=>.i k n
 | .bool t=>.b t
 | .agg _=>.any
 | .func (.func f) first caps=>(match first.toList,caps.toList with | [],[]=>.fn f [] | _,_=>.any)
 | x=>.v x
def zAf (T:Tm) (x:Operand):AV:=
 Operand.rec (motive:=fun _=>AV) (fun t=>look T t) ofV (fun _=>.any) (fun f=>.fn f []) x
def zEJ {α:Type}(l:List α) (n:Nat):List α:=
 Nat.rec (motive:=fun _=>List α->List α) (fun l=>l) (fun _ ih l=>List.rec [] (fun _ r _=>ih r) l) n l
def zI9 {α:Type}(l:List α) (n:Nat):List α:=
 Nat.rec (motive:=fun _=>List α->List α) (fun _=>[]) (fun _ ih l=>List.rec [] (fun a r _=>a::ih r) l) n l
def zJK {α:Type}(l:List α):Nat:=List.rec 0 (fun _ _ ih=>Nat.succ ih) l
def zK0 {α:Type}(l:List α):Option α:=List.rec none (fun a _ _=>some a) l
def nth {α:Type}(l:List α) (n:Nat):Option α:=zK0 (zEJ l n)
def zE7 {α β:Type}(f:α->β) (l:List α):List β:=List.rec [] (fun a _ ih=>f a::ih) l
def app {α:Type}(a b:List α):List α:=List.rec b (fun x _ ih=>x::ih) a
def zA6 {α β:Type}(x:Option α) (f:α->Option β):Option β:=Option.rec none f x
def cells? (x:AV):Option (List AV):=
 AV.rec (motive_1:=fun _=>Option (List AV)) (motive_2:=fun _=>Unit) (fun k n=>some [.i k n]) (fun t=>some [.b t])
  (fun x=>match x with | .agg _=>none | .tuple _=>none | x=>some [.v x]) (fun n=>some [.lim n]) (fun c l _=>some [.fsl c l]) (fun c _=>some [.fpt c])
  (fun id off len k cap=>some [.sl id off len k cap]) (fun id off=>some [.ptr id off]) (fun id=>some [.map id]) (fun cs _=>some cs) (fun _ _=>none) (fun f c _=>some [.fn f c]) (fun t x _=>some [.ifc t x]) none
  () (fun _ _ _ _=>()) x
def zVp (d:Nat):AV:=.i .u32 (Int.ofNat d)
def zIZ (f:Nat):Nat->List AV:=
 Nat.rec (motive:=fun _=>Nat->List AV) (fun _=>[]) (fun _ ih n=>Bool.rec (zVp (Nat.mod n 4294967296)::ih (Nat.div n 4294967296)) [] (Nat.beq n 0)) f
def zER (n:Nat):Nat:=Bool.rec (Nat.succ (Nat.div (Nat.log2 n) 32)) 0 (Nat.beq n 0)
def zDP (agg:Bool) (n:Nat) (l:List AV):Option AV:=
 Bool.rec (zK0 l) ((fun r=>Bool.rec none (some (.agg r)) (Nat.beq (zJK r) n)) (zI9 l n)) agg
def zC6 (c:TC):Bool:=match c with | .arr ..=>true | .struct _=>true | _=>false
def loadAt (H:Hp) (p:AV) (agg:Bool) (n:Nat):Option AV:=
 match p with
 | .ptr id off=>(match hget H id with
  | some (.cells cs)=>zDP agg n (zEJ cs off)
  | _=>none)
 | .fpt cs=>zDP agg n cs
 | _=>none
def zGJ (cs:List AV):List AV->Option (List AV):=
 List.rec (motive:=fun _=>List AV->Option (List AV)) (fun vs=>List.rec (some []) (fun _ _ _=>none) vs)
  (fun c r ih vs=>List.rec (some (c::r)) (fun v vs _=>Option.rec none (fun l=>some (v::l)) (ih vs)) vs) cs
def zDY (n:Nat):List AV->List AV->Option (List AV):=
 Nat.rec (motive:=fun _=>List AV->List AV->Option (List AV)) zGJ
  (fun _ ih cs vs=>List.rec none (fun c r _=>Option.rec none (fun l=>some (c::l)) (ih r vs)) cs) n
def nat? (x:AV):Option Nat:=match x with | .i _ n=>(match n with | .ofNat m=>some m | _=>none) | _=>none
def zHd (k:IntKind) (n:Int):Int:=
 match k,n with
 | .i64,.ofNat m=>Bool.rec (k.wrap n) n (Nat.ble m 9223372036854775807)
 | .i64,.negSucc m=>Bool.rec (k.wrap n) n (Nat.ble m 9223372036854775807)
 | .u32,.ofNat m=>.ofNat (Nat.mod m 4294967296)
 | .u64,.ofNat m=>.ofNat (Nat.mod m 18446744073709551616)
 | k,n=>k.wrap n
def ltI (a b:Int):Bool:=
 match a,b with
 | .ofNat x,.ofNat y=>Nat.ble (Nat.succ x) y
 | .ofNat _,.negSucc _=>false
 | .negSucc _,.ofNat _=>true
 | .negSucc x,.negSucc y=>Nat.ble (Nat.succ y) x
def eqI (a b:Int):Bool:=
 match a,b with
 | .ofNat x,.ofNat y=>Nat.beq x y
 | .negSucc x,.negSucc y=>Nat.beq x y
 | _,_=>false
def kc (k:IntKind):Nat:=IntKind.rec 0 1 2 3 4 5 6 7 k
def zNi (f:Nat->Nat->Nat) (k:IntKind) (a b:Int):Option AV:=
 match a,b with
 | .ofNat x,.ofNat y=>some (.i k (zHd k (.ofNat (f (Nat.mod x (Nat.pow 2 k.bits)) (Nat.mod y (Nat.pow 2 k.bits))))))
 | _,_=>none
def zR6 (op:BinOp):IntKind->Int->Int->Option AV:=
 match op with
 | .add=>fun k a b=>some (.i k (zHd k (Int.add a b)))
 | .sub=>fun k a b=>some (.i k (zHd k (Int.sub a b)))
 | .mul=>fun k a b=>some (.i k (zHd k (Int.mul a b)))
 | .quo=>fun k a b=>Bool.rec (some (.i k (zHd k (Int.tdiv a b)))) none (eqI b (.ofNat 0))
 | .rem=>fun k a b=>Bool.rec (some (.i k (Int.tmod a b))) none (eqI b (.ofNat 0))
 | .eql=>fun _ a b=>some (.b (eqI a b))
 | .neq=>fun _ a b=>some (.b (Bool.not (eqI a b)))
 | .lss=>fun _ a b=>some (.b (ltI a b))
 | .leq=>fun _ a b=>some (.b (Bool.not (ltI b a)))
 | .gtr=>fun _ a b=>some (.b (ltI b a))
 | .geq=>fun _ a b=>some (.b (Bool.not (ltI a b)))
 | .and=>zNi Nat.land
 | .or=>zNi Nat.lor
 | .xor=>zNi Nat.xor
 | _=>fun _ _ _=>none
def zO8 (op:BinOp) (k:IntKind) (a b:Int):Option AV:=
 match a,b with
 | .ofNat x,.ofNat y=>Bool.rec none (match op with
  | .shl=>some (.i k (zHd k (.ofNat (Nat.mul x (Nat.pow 2 y)))))
  | .shr=>some (.i k (.ofNat (Nat.div x (Nat.pow 2 y))))
  | _=>none) (Nat.ble y k.bits)
 | _,_=>none
def zVj (op:BinOp) (x y:List UInt8):Option AV:=
 match op with
 | .eql=>some (.b (x == y))
 | .neq=>some (.b (!(x == y)))
 | .lss=>some (.b (Op.bytesLess x y))
 | .leq=>some (.b (Op.bytesLess x y || x == y))
 | .gtr=>some (.b !(Op.bytesLess x y || x == y))
 | .geq=>some (.b !(Op.bytesLess x y))
 | _=>none
def zCo (xs:List AV):List AV->Option Bool:=
 List.rec (motive:=fun _=>List AV->Option Bool) (fun ys=>List.rec (some true) (fun _ _ _=>none) ys)
  (fun x _ ih ys=>List.rec none (fun y r _=>match x,y with
   | .i j a,.i k b=>Bool.rec none (Bool.rec (some false) (ih r) (eqI a b)) (Nat.beq (kc j) (kc k))
   | _,_=>none) ys) xs
def zOD (x:AV):Option Bool:=
 match x with
 | .v (.slice none _ _)=>some true
 | .sl ..=>some false
 | .fsl ..=>some false
 | .lim n=>Bool.rec (some false) none (Nat.beq n 0)
 | _=>none
def zOC (x:AV):Option Bool:=
 match x with
 | .v (.pointer none)=>some true
 | .ptr _ _=>some false
 | .fpt _=>some false
 | _=>none
def zOB (x:AV):Option Bool:=
 match x with
 | .v .nilFunc=>some true
 | .fn _ _=>some false
 | _=>none
def zRO (op:BinOp) (t:Bool):Option AV:=match op with | .eql=>some (.b t) | .neq=>some (.b (Bool.not t)) | _=>none
def zEu (ti:TI) (op:BinOp) (x y:AV):Option AV:=
 match ti.c with
 | .str=>(match x,y with
  | .v (.string a),.v (.string b)=>zVj op a.data.toList b.data.toList
  | _,_=>none)
 | .bool=>(match x,y with
  | .b a,.b b=>zRO op (Bool.rec (Bool.not b) b a)
  | _,_=>none)
 | .struct _=>Bool.rec none (match x,y with
  | .agg a,.agg b=>Bool.rec none (zA6 (zCo a b) fun t=>zRO op t) (Nat.beq (zJK a) ti.size)
  | _,_=>none) ti.eq
 | .ptr=>nilCmp zOC op x y
 | .slice _=>nilCmp zOD op x y
 | .fnc=>nilCmp zOB op x y
 | _=>none
where
 nilCmp (isNil:AV->Option Bool) (op:BinOp) (x y:AV):Option AV:=
  zA6 (isNil x) fun a=>zA6 (isNil y) fun b=>Bool.rec (Bool.rec none (zRO op false) b) (zRO op b) a
def zK6 (op:BinOp):Bool:=match op with | .shl=>true | .shr=>true | _=>false
def binop (E:Env) (op:BinOp) (t:Nat) (x y:AV):Option AV:=
 match x with
 | .i k a=>(match y with
  | .i k' b=>Bool.rec (Bool.rec none (zR6 op k a b) (Nat.beq (kc k) (kc k'))) (zO8 op k a b) (zK6 op)
  | _=>none)
 | x=>zA6 (PT.get none E.ti t) fun ti=>zEu ti op x y
def lenOf (x:AV):Option Nat:=
 match x with
 | .sl _ _ l _ _=>some l
 | .fsl _ l=>some l
 | .lim n=>some (zER n)
 | .v (.slice none 0 0)=>some 0
 | _=>none
def zE1 (l:List AV) (m:Nat):Option (List AV):=(fun r=>Bool.rec none (some r) (Nat.beq (zJK r) m)) (zI9 l m)
def zBR (H:Hp) (size m:Nat) (x:AV):Option (List AV):=
 match x with
 | .sl id off _ _ _=>(match hget H id with
  | some (.cells cs)=>zE1 (zEJ cs off) (Nat.mul m size)
  | _=>none)
 | .fsl cs _=>zE1 cs (Nat.mul m size)
 | .lim n=>Bool.rec none (zE1 (zIZ 1000 n) m) (Nat.beq size 1)
 | .v (.slice none _ _)=>Bool.rec none (some []) (Nat.beq m 0)
 | _=>none
def zCJ (ρ:Operand->AV) (place:Nat->Option (Nat×Nat)) (ps:List (Nat×Operand)):List AV->Option (List AV):=
 List.rec (motive:=fun _=>List AV->Option (List AV)) (fun cells=>some cells)
  (fun p _ ih cells=>zA6 (place p.1) fun q=>zA6 (cells? (ρ p.2)) fun cs=>Bool.rec none (zA6 (zDY q.1 cells cs) ih) (Nat.beq (zJK cs) q.2)) ps
def zTl (n:Nat) (z:List AV):List AV:=Nat.rec (motive:=fun _=>List AV) [] (fun _ ih=>app z ih) n
def zJs (x y:AV):Option Bool:=
 match x,y with
 | .i j a,.i k b=>Bool.rec none (some (eqI a b)) (Nat.beq (kc j) (kc k))
 | .agg xs,.agg ys=>zCo xs ys
 | .v (.string s),.v (.string t)=>some (s.data.toList == t.data.toList)
 | _,_=>none
def findKey (k:AV) (es:List (AV×AV)):Option (Option AV):=
 List.rec (some none) (fun p _ ih=>zA6 (zJs k p.1) fun t=>Bool.rec ih (some (some p.2)) t) es
def zJ9 (k v:AV) (es:List (AV×AV)):Option (List (AV×AV)):=
 List.rec (some [(k,v)]) (fun p r ih=>zA6 (zJs k p.1) fun t=>Bool.rec (zA6 ih fun l=>some (p::l)) (some ((p.1,v)::r)) t) es
abbrev zAr:=Nat->List AV->Hp->Nat->RV
abbrev Run:=Env->zAr->Tm->Hp->Nat->RV
def okv (x:Option AV) (H:Hp) (n:Nat):RV:=Option.rec .fail (fun v=>.ok v H n) x
def zTj (cs:List AV) (H:Hp) (n:Nat):RV:=.ok (.ptr n 0) ((n,.cells cs)::H) (Nat.succ n)
def withT (E:Env) (t:Nat) (f:TI->RV):RV:=Option.rec .fail f (PT.get none E.ti t)
def elemT (E:Env) (t:Nat) (f:TI->RV):RV:=withT E t fun ti=>match ti.c with | .slice e=>withT E e f | _=>.fail
def zTc (x:Operand):Run:=fun _ _ T H n=>.ok (zAf T x) H n
def zKb (c a b:Operand):Run:=fun _ _ T H n=>match zAf T c with
 | .b t=>.ok (Bool.rec (zAf T b) (zAf T a) t) H n
 | _=>.fail
def zHN (t:Nat):Run:=fun E _ _ H n=>withT E t fun ti=>zTj ti.zero H n
def zRt (_:Nat) (x:Operand):Run:=fun _ _ T H n=>Option.rec .fail (fun cs=>zTj cs H n) (cells? (zAf T x))
def zOg (fs:List (Nat×Nat×Bool)) (i:Nat):Option (Nat×Nat):=zA6 (nth fs i) fun f=>some (f.1,f.2.1)
def zHO (t:Nat) (ps:Array (Nat×Operand)):Run:=fun E _ T H n=>withT E t fun ti=>
 match ti.c with
 | .struct fs=>okv (zA6 (zCJ (zAf T) (zOg fs) ps.toList ti.zero) fun cs=>some (.agg cs)) H n
 | .arr _ e=>withT E e fun te=>okv (zA6 (zCJ (zAf T) (fun i=>some (Nat.mul i te.size,te.size)) ps.toList ti.zero) fun cs=>some (.agg cs)) H n
 | _=>.fail
def zBv (t len:Nat) (ps:Array (Nat×Operand)):Run:=fun E _ T H n=>elemT E t fun te=>
 Bool.rec .fail (Option.rec .fail (fun cs=>.ok (.sl n 0 len te.size (some len)) ((n,.cells cs)::H) (Nat.succ n))
  (zCJ (zAf T) (fun i=>some (Nat.mul i te.size,te.size)) ps.toList (zTl len te.zero))) (Bool.and (Nat.ble (Nat.mul len te.size) 16777216) (Nat.ble len 16777216))
def zHe (t:Nat) (a:Operand):Run:=fun E _ T H n=>withT E t fun ti=>okv (loadAt H (zAf T a) (zC6 ti.c) ti.size) H n
def zI6 (size:Nat) (a:AV) (vs:List AV) (H:Hp) (n:Nat):RV:=
 match a with
 | .ptr id off=>(match hget H id with
  | some (.cells cs)=>Bool.rec .fail (Option.rec .fail (fun cs'=>.ok (.v undef) (zK1 H id (.cells cs')) n) (zDY off cs vs)) (Nat.beq (zJK vs) size)
  | _=>.fail)
 | _=>.fail
def zMS (t:Nat) (a x:Operand):Run:=fun E _ T H n=>withT E t fun ti=>Option.rec .fail (fun cs=>zI6 ti.size (zAf T a) cs H n) (cells? (zAf T x))
def zRu (x:Operand):Run:=fun _ _ T H n=>match zAf T x with
 | .ptr i o=>.ok (.ptr i o) H n
 | .fpt c=>.ok (.fpt c) H n
 | .fn f c=>.ok (.fn f c) H n
 | _=>.fail
def zTb (op:BinOp) (t:Nat) (x y:Operand) (_:Nat):Run:=fun E _ T H n=>okv (binop E op t (zAf T x) (zAf T y)) H n
def xUn (op:UnOp) (_:Nat) (x:Operand):Run:=fun _ _ T H n=>match op,zAf T x with
 | .neg,.i k a=>.ok (.i k (zHd k (Int.neg a))) H n
 | .not,.b t=>.ok (.b (Bool.not t)) H n
 | _,_=>.fail
def zLT (src dst:Nat) (x:Operand):Run:=fun E _ T H n=>withT E src fun _=>withT E dst fun ti=>match ti.c,zAf T x with
 | .int k,.i _ a=>.ok (.i k (zHd k a)) H n
 | _,_=>.fail
def zKa (f:Fn) (first caps:Array Operand):Run:=fun _ _ T H n=>match f,first.toList with
 | .func f,[]=>.ok (.fn f (zE7 (zAf T) caps.toList)) H n
 | _,_=>.fail
def zLU (t:Nat) (l c:Operand):Run:=fun E _ T H n=>elemT E t fun te=>match nat? (zAf T l),nat? (zAf T c) with
 | some l,some c=>Bool.rec .fail (.ok (.sl n 0 l te.size (some c)) ((n,.cells (zTl c te.zero))::H) (Nat.succ n)) (Bool.and (Nat.ble l c) (Bool.and (Nat.ble c 16777216) (Nat.ble te.bytes 65536)))
 | _,_=>.fail
def zNS (T:Tm) (d:Nat) (x:Option Operand):Option Nat:=Option.rec (some d) (fun x=>nat? (zAf T x)) x
def resl (id off k l h m:Nat) (H:Hp) (n:Nat):RV:=.ok (.sl id (Bool.rec (Nat.add off (Nat.mul l k)) off (Nat.beq m l)) (Nat.sub h l) k (some (Nat.sub m l))) H n
def zHR (t:Nat) (x:Operand) (lo hi mx:Option Operand):Run:=fun E _ T H n=>elemT E t fun te=>
 match zAf T x with
 | .sl id off len k cap=>Bool.rec .fail (match cap with
  | some c=>(match zNS T 0 lo,zNS T len hi,zNS T c mx with
   | some l,some h,some m=>Bool.rec .fail (Bool.rec .fail (resl id off k l h m H n) (Bool.and (Bool.and (Nat.ble l h) (Nat.ble h m)) (Nat.ble m c))) (Option.rec true (fun _=>Option.rec false (fun _=>true) hi) mx)
   | _,_,_=>.fail)
  | none=>(match zNS T 0 lo,zNS T len hi,mx with
   | some l,some h,none=>Bool.rec .fail (.ok (.sl id (Nat.add off (Nat.mul l k)) (Nat.sub h l) k none) H n)
     (Bool.and (Bool.and (Nat.ble l h) (Nat.ble h len)) (Bool.or (Nat.beq l 0) (Nat.ble (Nat.succ l) h)))
   | _,_,_=>.fail)) (Nat.beq k te.size)
 | .fsl cs len=>(match zNS T 0 lo,zNS T len hi,mx with
  | some l,some h,none=>Bool.rec .fail (.ok (.fsl (zEJ cs (Nat.mul l te.size)) (Nat.sub h l)) H n) (Bool.and (Bool.and (Nat.ble l h) (Nat.ble h len)) (Bool.or (Nat.beq l 0) (Nat.ble (Nat.succ l) h)))
  | _,_,_=>.fail)
 | .v (.slice none l c)=>(match zNS T 0 lo,zNS T 0 hi,mx,l,c with
  | some 0,some 0,none,0,0=>.ok (.v (.slice none 0 0)) H n
  | _,_,_,_,_=>.fail)
 | _=>.fail
def zB7 (t:Nat) (x:Operand) (f:Nat):Run:=fun E _ T H n=>withT E t fun ti=>match ti.c with
 | .struct fs=>(match nth fs f with
  | some fd=>Bool.rec (match zAf T x with
   | .ptr id o=>.ok (.ptr id (Nat.add o fd.1)) H n
   | .fpt cs=>.ok (.fpt (zEJ cs fd.1)) H n
   | _=>.fail) .fail (Nat.beq fd.2.1 0)
  | none=>.fail)
 | _=>.fail
def zHP (t:Nat) (x:Operand) (f:Nat):Run:=fun E _ T H n=>withT E t fun ti=>match ti.c,zAf T x with
 | .struct fs,.agg cs=>(match nth fs f with
  | some fd=>okv (zDP fd.2.2 fd.2.1 (zEJ cs fd.1)) H n
  | none=>.fail)
 | _,_=>.fail
def zB8 (t:Nat) (x i:Operand):Run:=fun E _ T H n=>withT E t fun ti=>Option.rec .fail (fun i=>match ti.c with
 | .slice e=>withT E e fun te=>(match zAf T x with
  | .sl id off len _ _=>Bool.rec .fail (.ok (.ptr id (Nat.add off (Nat.mul i te.size))) H n) (Nat.ble (Nat.succ i) len)
  | .fsl cs len=>Bool.rec .fail (.ok (.fpt (zEJ cs (Nat.mul i te.size))) H n) (Nat.ble (Nat.succ i) len)
  | .lim m=>Bool.rec .fail (Bool.rec .fail (.ok (.fpt (zEJ (zIZ 1000 m) i)) H n) (Nat.beq te.size 1)) (Nat.ble (Nat.succ i) (zER m))
  | _=>.fail)
 | .arr len e=>withT E e fun te=>(match zAf T x with
  | .ptr id off=>Bool.rec .fail (.ok (.ptr id (Nat.add off (Nat.mul i te.size))) H n) (Nat.ble (Nat.succ i) len)
  | .fpt cs=>Bool.rec .fail (.ok (.fpt (zEJ cs (Nat.mul i te.size))) H n) (Nat.ble (Nat.succ i) len)
  | _=>.fail)
 | _=>.fail) (nat? (zAf T i))
def zHQ (t:Nat) (x i:Operand):Run:=fun E _ T H n=>withT E t fun ti=>Option.rec .fail (fun i=>match ti.c,zAf T x with
 | .arr len e,.agg cs=>withT E e fun te=>Bool.rec .fail (okv (zDP (zC6 te.c) te.size (zEJ cs (Nat.mul i te.size))) H n) (Nat.ble (Nat.succ i) len)
 | .str,.v (.string s)=>(match nth s.data.toList i with | some b=>.ok (.i .u8 (Int.ofNat b.toNat)) H n | none=>.fail)
 | _,_=>.fail) (nat? (zAf T i))
def zCs (x:Operand) (i:Nat):Run:=fun _ _ T H n=>match zAf T x with
 | .tup vs=>okv (nth vs i) H n
 | _=>.fail
def zCt (_:Nat) (r:Option Operand):Run:=fun _ _ _ H n=>match r with
 | none=>.ok (.map n) ((n,.map [])::H) (Nat.succ n)
 | _=>.fail
def keyT (E:Env) (t:Nat) (x:AV) (f:Nat->RV):RV:=withT E t fun ti=>match ti.c with
 | .map k e=>withT E k fun tk=>(match tk.c,x with
  | .int _,.i _ _=>f e
  | .str,.v (.string _)=>f e
  | .struct _,.agg cs=>Bool.rec .fail (f e) (Bool.and tk.eq (Nat.beq (zJK cs) tk.size))
  | _,_=>.fail)
 | _=>.fail
def zDy (t:Nat) (m k x:Operand):Run:=fun E _ T H n=>keyT E t (zAf T k) fun _=>match zAf T m with
 | .map id=>(match hget H id with
  | some (.map es)=>Option.rec .fail (fun es=>.ok (.v undef) (zK1 H id (.map es)) n) (zJ9 (zAf T k) (zAf T x) es)
  | _=>.fail)
 | _=>.fail
def zIM (e:TI):Option AV:=Bool.rec (zK0 e.zero) (some (.agg e.zero)) (zC6 e.c)
def zDx (t:Nat) (m k:Operand) (ok:Bool):Run:=fun E _ T H n=>keyT E t (zAf T k) fun e=>match zAf T m with
 | .map id=>(match hget H id with
  | some (.map es)=>Option.rec .fail (fun r=>Option.rec
    (withT E e fun te=>Option.rec .fail (fun z=>.ok (Bool.rec z (.tup [z,.b false]) ok) H n) (zIM te))
    (fun v=>.ok (Bool.rec v (.tup [v,.b true]) ok) H n) r) (findKey (zAf T k) es)
  | _=>.fail)
 | _=>.fail
def zR8 (E:Env) (ts:List TypeId) (args:List AV) (H:Hp) (n:Nat):RV:=
 match args,ts with
 | [x],[t]=>withT E t fun ti=>(match ti.c,x with
  | .slice _,x=>okv (zA6 (lenOf x) fun l=>some (.i .i64 (Int.ofNat l))) H n
  | .str,.v (.string s)=>.ok (.i .i64 (Int.ofNat (zJK s.data.toList))) H n
  | _,_=>.fail)
 | _,_=>.fail
def zR7 (E:Env) (ts:List TypeId) (args:List AV) (H:Hp) (n:Nat):RV:=
 match args,ts with
 | [x],[t]=>withT E t fun ti=>(match ti.c,x with
  | .slice _,.sl _ _ _ _ (some c)=>.ok (.i .i64 (Int.ofNat c)) H n
  | .slice _,.v (.slice none _ c)=>.ok (.i .i64 (Int.ofNat c)) H n
  | _,_=>.fail)
 | _,_=>.fail
def zNN (mx:Bool) (args:List AV) (H:Hp) (n:Nat):RV:=
 match args with
 | [.i k a,.i _ b]=>.ok (.i k (Bool.rec (Bool.rec a b (ltI b a)) (Bool.rec a b (ltI a b)) mx)) H n
 | _=>.fail
def zMc (te:TI) (s:AV) (new:List AV) (m:Nat) (H:Hp) (n:Nat):RV:=
 match s with
 | .v (.slice none 0 0)=>.ok (.sl n 0 m te.size none) ((n,.cells new)::H) (Nat.succ n)
 | .sl id off len k cap=>Bool.rec .fail (match hget H id with
  | some (.cells cs)=>(match cap with
   | some c=>Bool.rec
     (Option.rec .fail (fun old=>.ok (.sl n 0 (Nat.add len m) k none) ((n,.cells (app old new))::H) (Nat.succ n)) (zE1 (zEJ cs off) (Nat.mul len k)))
     (Option.rec .fail (fun cs'=>.ok (.sl id off (Nat.add len m) k (some c)) (zK1 H id (.cells cs')) n) (zDY (Nat.add off (Nat.mul len k)) cs new))
     (Nat.ble (Nat.add len m) c)
   | none=>Bool.rec .fail (Option.rec .fail (fun old=>.ok (.sl n 0 (Nat.add len m) k none) ((n,.cells (app old new))::zPj H id) (Nat.succ n)) (zE1 cs (Nat.mul len k))) (Nat.beq off 0))
  | _=>.fail) (Nat.beq k te.size)
 | _=>.fail
def zGU (E:Env) (ts:List TypeId) (args:List AV) (H:Hp) (n:Nat):RV:=
 match args,ts with
 | [s,x],[t,u]=>elemT E t fun te=>withT E u fun tu=>Bool.rec .fail (match tu.c with
  | .int _=>Option.rec .fail (fun m=>Bool.rec (Bool.rec .fail (zMc te s (zTl m te.zero) m H n) (Nat.ble m 16777216)) (.ok s H n) (Nat.beq m 0)) (nat? x)
  | .slice _=>Option.rec .fail (fun m=>Bool.rec (Bool.rec .fail (Option.rec .fail (fun new=>zMc te s new m H n) (zBR H te.size m x)) (Nat.ble m 16777216)) (.ok s H n) (Nat.beq m 0)) (lenOf x)
  | _=>.fail) (Bool.and (Nat.ble te.bytes 65536) (match lenOf s with | some l=>Nat.ble l 16777216 | none=>false))
 | _,_=>.fail
def zNf (E:Env) (ts:List TypeId) (args:List AV) (H:Hp) (n:Nat):RV:=
 match args,ts with
 | [.sl id off len k _,s],[t,_]=>elemT E t fun te=>Bool.rec .fail (Option.rec .fail (fun ls=>(fun m=>Option.rec .fail (fun new=>match hget H id with
   | some (.cells cs)=>Option.rec .fail (fun cs'=>.ok (.i .i64 (Int.ofNat m)) (zK1 H id (.cells cs')) n) (zDY off cs new)
   | _=>.fail) (zBR H te.size m s)) (Bool.rec len ls (Nat.ble ls len))) (lenOf s)) (Nat.beq k te.size)
 | _,_=>.fail
def zDT (bi:Builtin) (ts:Array TypeId) (args:Array Operand):Run:=fun E _ T H n=>
 match bi with
 | .len=>zR8 E ts.toList (zE7 (zAf T) args.toList) H n
 | .append=>zGU E ts.toList (zE7 (zAf T) args.toList) H n
 | .cap=>zR7 E ts.toList (zE7 (zAf T) args.toList) H n
 | .min=>zNN false (zE7 (zAf T) args.toList) H n
 | .max=>zNN true (zE7 (zAf T) args.toList) H n
 | .copy=>zNf E ts.toList (zE7 (zAf T) args.toList) H n
 | _=>.fail
def zIL (f:Operand) (args:Array Operand):Run:=fun _ call T H n=>match zAf T f with
 | .fn f caps=>call f (app (zE7 (zAf T) args.toList) caps) H n
 | _=>.fail
def zs1 (name:String) (ms:List (String×Nat)):Option Nat:=List.rec none (fun p _ ih=>Bool.rec ih (some p.2) (p.1 == name)) ms
def zrN (r:Operand) (name:String) (args:Array Operand):Run:=fun E call T H n=>match zAf T r with
 | .ifc t x=>withT E t fun ti=>(match ti.c with
  | .ptrM ms=>Option.rec .fail (fun f=>call f (x::zE7 (zAf T) args.toList) H n) (zs1 name ms)
  | _=>.fail)
 | _=>.fail
def zra (t:Nat) (x:Operand):Run:=fun E _ T H n=>withT E t fun ti=>match ti.c with
 | .ptrM _=>.ok (.ifc t (zAf T x)) H n
 | _=>.fail
def zNI (c:Call):Run:=Call.rec (motive:=fun _=>Run) (fun callee args ts=>Callee.rec (motive:=fun _=>Run) (fun f=>zIL f args) (fun r name=>zrN r name args) (fun b=>zDT b ts args) callee) c
def zDw:Run:=fun _ _ _ _ _=>.fail
def zFY (o:Op):Run:=
 Op.rec (motive:=fun _=>Run) zTc zTc zKb zHN zRt zHO zBv zDy zHe zMS (fun _=>zDw) (fun _=>zDw) zRu zTb xUn zLT (fun _ _=>zDw) zra zKa zCt (fun _ _=>zDw) zLU zHR zB7 zHP zB8 zHQ zDx zDy (fun _ _ _=>zDw) (fun _ _ _ _=>zDw) (fun _ _=>zDw) (fun _ _=>zDw) (fun _=>zDw) (fun _ _ _ _=>zDw) zCs zNI (fun _=>zDw) (fun _=>zDw) (fun _=>zDw) (fun _ _=>zDw) (fun _ _ _=>zDw) (fun _ _=>zDw) o
def zBj (ops:List Oper) (T:Tm) (g:Option (Nat×Bool)):Option Bool:=
 Option.rec (some true) (fun p=>match nth ops p.1 with
  | some o=>Option.rec (some false) (fun d=>match look T d with
   | .b t=>some (Bool.rec (Bool.not t) t p.2)
   | .v (.tuple _)=>some false
   | _=>none) o.dst
  | none=>some false) g
def put (T:Tm) (dst:Option Nat) (v:AV):Tm:=Option.rec T (fun d=>(d,v)::T) dst
def zGl (E:Env) (call:zAr) (ops:List Oper) (o:Oper) (T:Tm) (H:Hp) (n:Nat) (k:Tm->Hp->Nat->Res):Res:=
 Oper.rec (motive:=fun _=>Res) (fun dst op _ _ _ guard=>
   Option.rec .fail (fun g=>Bool.rec (k (put T dst (.v undef)) H n)
    (RV.rec .fail (fun v H n=>k (put T dst v) H n) (zFY op E call T H n)) g) (zBj ops T guard)) o
def zKw (E:Env) (call:zAr) (ops:List Oper) (os:List Oper):Tm->Hp->Nat->Res:=
 List.rec (motive:=fun _=>Tm->Hp->Nat->Res) (fun T H n=>.ok .nrm T H n) (fun o _ ih T H n=>zGl E call ops o T H n ih) os
def zKh (args:List AV):Nat->Tm:=
 List.rec (motive:=fun _=>Nat->Tm) (fun _=>[]) (fun a _ ih k=>(k,a)::ih (Nat.succ k)) args
def zHc (E:Env) (T:Tm) (H:Hp) (rs:List ResultVar):Option (List AV):=
 List.rec (some []) (fun r _ ih=>zA6 (ResultVar.rec (motive:=fun _=>Option AV) (fun t=>some (look T t)) (fun a t=>zA6 (PT.get none E.ti t) fun ti=>loadAt H (look T a) (zC6 ti.c) ti.size) r) fun v=>zA6 ih fun l=>some (v::l)) rs
def one (l:List AV):AV:=match l with
 | [x]=>x
 | l=>.tup l
def zVP (H:Hp) (f:Nat):AV->List Nat->List Nat:=
 Nat.rec (motive:=fun _=>AV->List Nat->List Nat) (fun _ r=>r) (fun _ ih x r=>match x with
  | .sl id ..=>(match hget H id with | some (.cells cs)=>List.rec (id::r) (fun c _ r=>ih c r) cs | _=>id::r)
  | .ptr id _=>(match hget H id with | some (.cells cs)=>List.rec (id::r) (fun c _ r=>ih c r) cs | _=>id::r)
  | .map id=>(match hget H id with | some (.map es)=>List.rec (id::r) (fun p _ r=>ih p.2 r) es | _=>id::r)
  | .agg cs=>List.rec r (fun c _ r=>ih c r) cs
  | .tup cs=>List.rec r (fun c _ r=>ih c r) cs
  | .fn _ cs=>List.rec r (fun c _ r=>ih c r) cs
  | .ifc _ x=>ih x r
  | _=>r) f
def zGs (mode n0:Nat) (v:AV) (H:Hp) (n:Nat):RV:=
 Bool.rec (Bool.rec (.ok v (zDo H n0 (zVP H 8 v [])) n) (.ok v (zKz H n0) n) (Nat.beq mode 1)) (.ok v H n) (Nat.beq mode 0)
def zBN (N:Nat) (c:Code):Bool:=
 match c with
 | .region _ ops _=>ops.toList.all fun o=>match o.dst with | some d=>Nat.ble (Nat.succ d) N | none=>true
 | .seq a b=>zBN N a && zBN N b
 | .cond _ a b=>zBN N a && zBN N b
 | .block _ b=>zBN N b
 | .loop b=>zBN N b
 | .scope b=>zBN N b
 | .rangeFunc ..=>false
 | _=>true
def eqNat? (x y:Option Nat):Bool:=match x,y with | none,none=>true | some a,some b=>Nat.beq a b | _,_=>false
def zKK (x:AV):AV->Bool:=
 AV.rec (motive_1:=fun _=>AV->Bool) (motive_2:=fun _=>List AV->Bool)
  (fun k n y=>match y with | .i k' n'=>Bool.and (Nat.beq (kc k) (kc k')) (eqI n n') | _=>false)
  (fun t y=>match y with | .b t'=>Bool.rec (Bool.not t') t' t | _=>false)
  (fun v y=>match v,y with
   | .slice none 0 0,.v (.slice none 0 0)=>true
   | .pointer none,.v (.pointer none)=>true
   | .nilFunc,.v .nilFunc=>true
   | .string s,.v (.string s')=>s.data.toList == s'.data.toList
   | _,_=>false)
  (fun n y=>match y with | .lim n'=>Nat.beq n n' | _=>false)
  (fun _ l ih y=>match y with | .fsl c' l'=>Bool.and (Nat.beq l l') (ih c') | _=>false)
  (fun _ ih y=>match y with | .fpt c'=>ih c' | _=>false)
  (fun id off len k cap y=>match y with | .sl id' off' len' k' cap'=>Bool.and (Bool.and (Nat.beq id id') (Nat.beq off off')) (Bool.and (Nat.beq len len') (Bool.and (Nat.beq k k') (eqNat? cap cap'))) | _=>false)
  (fun id off y=>match y with | .ptr id' off'=>Bool.and (Nat.beq id id') (Nat.beq off off') | _=>false)
  (fun id y=>match y with | .map id'=>Nat.beq id id' | _=>false)
  (fun _ ih y=>match y with | .agg c'=>ih c' | _=>false)
  (fun _ ih y=>match y with | .tup c'=>ih c' | _=>false)
  (fun f _ ih y=>match y with | .fn f' c'=>Bool.and (Nat.beq f f') (ih c') | _=>false)
  (fun t _ ih y=>match y with | .ifc t' x'=>Bool.and (Nat.beq t t') (ih x') | _=>false)
  (fun y=>match y with | .any=>true | _=>false)
  (fun ys=>match ys with | []=>true | _=>false)
  (fun _ _ ihx ihr ys=>match ys with | y::ys=>Bool.and (ihx y) (ihr ys) | []=>false) x
def zO4 (x y:HB):Bool:=match x,y with
 | .cells a,.cells b=>zKK (.agg a) (.agg b)
 | _,_=>false
def zAe (o:Op):Nat:=
 match o with
 | .load ..=>1
 | .lookup ..=>1
 | .alloc _=>2
 | .box ..=>2
 | .buildSlice ..=>2
 | .makeSlice ..=>2
 | .makeMap ..=>2
 | .move _=>0
 | .assign _=>0
 | .pick ..=>0
 | .build ..=>0
 | .nilCheck _=>0
 | .binOp ..=>0
 | .unOp ..=>0
 | .convert ..=>0
 | .makeFunc ..=>0
 | .makeInterface ..=>0
 | .slice ..=>0
 | .fieldAddr ..=>0
 | .field ..=>0
 | .indexAddr ..=>0
 | .index ..=>0
 | .extract ..=>0
 | .call c=>(match c.callee with
  | .builtin .len=>0
  | .builtin .cap=>0
  | .builtin .min=>0
  | .builtin .max=>0
  | _=>3)
 | _=>3
def zAp (ops:List Oper):List Nat:=
 (ops.foldl (fun (acc:List Nat) o=>o.after.toList.foldl (fun s e=>if Region.binds .any e then s ||| 2^e.on ||| (acc.reverse.getD e.on 0) else s) 0::acc) []).reverse
def zCC (ops:List Oper) (o:Oper):List Nat:=
 (o.op.operands.toList.filterMap fun | .tmp t=>some t | _=>none)++(match o.guard with | some (g,_)=>((ops[g]?).bind (·.dst)).toList | none=>[])
def zIg (o:Oper) (i:Nat):Bool:=o.after.toList.any fun e=>e.on == i && Region.binds .any e
def zPG (ops:List Oper):Bool:=
 ops.zipIdx.all fun (o,j)=>(o.after.toList.all fun e=>!Region.binds .any e || Nat.blt e.on j) &&
  ops.zipIdx.all fun (p,i)=>i == j || match p.dst with
   | none=>true
   | some d=>o.dst != some d && ((zCC ops o).all fun t=>t != d || zIg o i || zIg p j)
def zNp (ops:List Oper):Bool:=
 let b:=zAp ops
 ops.zipIdx.all fun (o,j)=>zAe o.op != 3 || ops.zipIdx.all fun (p,i)=>!(Nat.blt i j) || zAe p.op<2 || (b.getD j 0).testBit i ||
  (zAe p.op == 2 && ops.zipIdx.any fun (q,k)=>Nat.blt i k && Nat.blt k j && zAe q.op == 3)
def zF8 (ops:List Oper):List (Nat×Nat):=
 let b:=zAp ops
 ops.zipIdx.flatMap fun (o,j)=>if zAe o.op == 1 then ops.zipIdx.filterMap fun (p,i)=>if zAe p.op == 3 && !((b.getD j 0).testBit i) && !((b.getD i 0).testBit j) then some (j,i) else none else []
def zRY (ops:List Oper):Bool:=
 ops.zipIdx.all fun (o,j)=>zAe o.op != 1 || ops.zipIdx.all fun (p,i)=>Nat.blt i j || match p.dst with
  | none=>true
  | some d=>(zCC ops o).all fun t=>t != d
def zGj (ops:List Oper):Bool:=zPG ops && zNp ops && zRY ops
def zCz (E:Env) (ab:Bool) (t:Nat) (a v:AV) (H:Hp):Bool:=
 match a with
 | .ptr id _=>Option.rec ab (fun _=>Option.rec false (fun ti=>Option.rec false (fun u=>zKK u v) (loadAt H a (zC6 ti.c) ti.size)) (PT.get none E.ti t)) (hget H id)
 | .fpt _=>true
 | _=>false
def zBa (E:Env) (ops:List Oper) (T:Tm) (sn:List (Nat×Hp×Hp)) (p:Nat×Nat):Bool:=
 match nth ops p.1 with
 | some o=>Option.rec false (fun g=>Bool.rec true (match o.op,o.dst with
  | .load t a,some d=>List.rec (motive:=fun _=>Bool) true (fun s _ ih=>Bool.rec ih (Bool.and (Bool.rec (zCz E true t (zAf T a) (look T d) s.2.1) (zCz E false t (zAf T a) (look T d) s.2.2) (Nat.ble p.1 p.2)) ih) (Nat.beq s.1 p.2)) sn
  | _,_=>false) g) (zBj ops T o.guard)
 | none=>false
def zEx (E:Env) (call:zAr) (ops:List Oper) (os:List Oper):Nat->List (Nat×Hp×Hp)->Tm->Hp->Nat->Res:=
 List.rec (motive:=fun _=>Nat->List (Nat×Hp×Hp)->Tm->Hp->Nat->Res)
  (fun _ sn T H n=>Bool.rec .fail (.ok .nrm T H n) (List.rec (motive:=fun _=>Bool) true (fun p _ ih=>Bool.rec false ih (zBa E ops T sn p)) (zF8 ops)))
  (fun o _ ih i sn T H n=>zGl E call ops o T H n fun T' H' n'=>ih (Nat.succ i) (Bool.rec sn ((i,H,H')::sn) (Nat.beq (zAe o.op) 3)) T' H' n') os
def zHa (E:Env) (call:zAr) (ops:Array Oper) (draw:Bool):Tm->Hp->Nat->Res:=fun T H n=>
 Bool.rec (zKw E call ops.toList ops.toList T H n) (Bool.rec .fail (zEx E call ops.toList ops.toList 0 [] T H n) (zGj ops.toList)) draw
abbrev CR:=zAr->Tm->Hp->Nat->Res
def inD (D t:Nat):Bool:=Nat.beq (Nat.mod (Nat.div D (Nat.pow 2 t)) 2) 1
def zG6 (D c:Nat):Tm->Tm:=
 Nat.rec (motive:=fun _=>Tm->Tm) (fun T=>T) (fun _ ih T=>List.rec [] (fun p r _=>Bool.rec (p::ih r) (ih r) (inD D p.1)) T) c
def zGg (ops:List Oper):Nat:=List.rec 0 (fun o _ ih=>Option.rec ih (fun _=>Nat.succ ih) o.dst) ops
def zR0 (E:Env) (D:Nat) (r:CR) (ops:Array Oper) (draw:Bool):Prop:=
 ∀call T H n x T' H' n',r call T H n=.ok x T' H' n'->∃ops',(ops' = ops\/draw=true/\ztG ops ops')/\∃T1,zHa E call ops' draw T H n=.ok x T1 H' n'/\T' = zG6 D (zGg ops'.toList) T1
theorem zQC (t:Nat):inD 0 t=false:=by
 unfold inD;have:Nat.mod (Nat.div 0 (Nat.pow 2 t)) 2=0:=by
  show (0 / 2^t)%2=0
  simp
 rw [this];rfl
theorem zG7:∀ (c:Nat) (T:Tm),c<=T.length->zG6 0 c T=T
 | 0,T,_=>rfl
 | c+1,[],h=>by cases h
 | c+1,p::T,h=>by
  show (Bool.rec (p::zG6 0 c T) (zG6 0 c T) (inD 0 p.1):Tm)=p::T
  rw [zQC,zG7 c T (Nat.le_of_succ_le_succ h)]
inductive CC (E:Env) (D:Nat) where
 | skip | ret
 | exit (i:Nat)
 | label (l:Nat)
 | seq (a b:CC E D)
 | cond (c:Operand) (a b:CC E D)
 | block (id:Nat) (b:CC E D)
 | loop (b:CC E D)
 | scope (b:CC E D)
 | reg (id:Nat) (ops:Array Oper) (draw:Bool) (r:CR) (h:zR0 E D r ops draw)
 | bad (c:Code)
def zBA {E:Env}{D:Nat}:CC E D->Code
 | .skip=>.skip
 | .ret=>.ret
 | .exit i=>.exit i
 | .label l=>.label l
 | .seq a b=>.seq (zBA a) (zBA b)
 | .cond c a b=>.cond c (zBA a) (zBA b)
 | .block id b=>.block id (zBA b)
 | .loop b=>.loop (zBA b)
 | .scope b=>.scope (zBA b)
 | .reg id ops draw _ _=>.region id ops draw
 | .bad c=>c
structure FD (E:Env) where
 fn:Func
 gc:Nat
 D:Nat
 cc:CC E D
structure Big where
 E:Env
 fn:PT (Option (FD E))
 nat:PT (Option zAz)
 memo:List (Nat×List ME)
def zDg (D:Nat) (args:List AV):Nat->Tm:=
 List.rec (motive:=fun _=>Nat->Tm) (fun _=>[]) (fun a _ ih k=>Bool.rec ((k,a)::ih (Nat.succ k)) (ih (Nat.succ k)) (inD D k)) args
abbrev Ev (E:Env):=(D:Nat)->CC E D->Tm->Hp->Nat->Res
def enter (B:Big) (ev:Ev B.E) (fd:FD B.E) (args:List AV) (H:Hp) (n:Nat):RV:=
 Res.rec .fail (fun x T H' n'=>Ex.rec
   (Option.rec .fail (fun vs=>zGs fd.gc n (one vs) H' n') (zHc B.E T H' fd.fn.results.toList))
   (Option.rec .fail (fun vs=>zGs fd.gc n (one vs) H' n') (zHc B.E T H' fd.fn.results.toList))
   (fun _=>.fail) x) (ev fd.D fd.cc (zDg fd.D args 0) H n)
def ren (s:Nat->Nat) (x:AV):AV:=
 AV.rec (motive_1:=fun _=>AV) (motive_2:=fun _=>List AV) (fun k n=>.i k n) (fun t=>.b t) (fun v=>.v v) (fun n=>.lim n) (fun _ l ih=>.fsl ih l) (fun _ ih=>.fpt ih)
  (fun id off len k cap=>.sl (s id) off len k cap) (fun id off=>.ptr (s id) off) (fun id=>.map (s id)) (fun _ ih=>.agg ih) (fun _ ih=>.tup ih) (fun f _ ih=>.fn f ih) (fun t _ ih=>.ifc t ih) .any
  [] (fun _ _ ih1 ih2=>ih1::ih2) x
def zEK (k:Nat) (x:AV):Bool:=
 AV.rec (motive_1:=fun _=>Bool) (motive_2:=fun _=>Bool) (fun _ _=>true) (fun _=>true) (fun _=>true) (fun _=>true) (fun _ _ ih=>ih) (fun _ ih=>ih)
  (fun id _ _ _ _=>Nat.ble (Nat.succ id) k) (fun id _=>Nat.ble (Nat.succ id) k) (fun id=>Nat.ble (Nat.succ id) k) (fun _ ih=>ih) (fun _ ih=>ih) (fun _ _ ih=>ih) (fun _ _ ih=>ih) true
  true (fun _ _ ih1 ih2=>Bool.and ih1 ih2) x
def ziq (x:AV):Option Nat:=match x with
 | .sl id _ _ _ _=>some id
 | .ptr id _=>some id
 | .map id=>some id
 | _=>none
def zcW (l:List AV):List AV:=List.rec [] (fun a _ ih=>match a with | .agg cs=>app cs ih | a=>a::ih) l
def zin (fa:List AV) (H:Hp) (s:List Nat) (p:Option Nat×Nat):Option Nat:=
 zA6 (Option.rec (nth fa p.2) (fun j=>zA6 (nth s j) fun id=>zA6 (hget H id) fun b=>match b with | .cells cs=>nth cs p.2 | _=>none) p.1) ziq
def zio (fa:List AV) (H:Hp) (ps:List (Option Nat×Nat)):List Nat->Option (List Nat):=
 List.rec (motive:=fun _=>List Nat->Option (List Nat)) (fun s=>some s) (fun p _ ih s=>zA6 (zin fa H s p) fun id=>ih (app s [id])) ps
def sg (s:List Nat) (n k i:Nat):Nat:=Bool.rec (Nat.add n (Nat.sub i k)) (Option.rec 0 (fun j=>j) (nth s i)) (Nat.ble (Nat.succ i) k)
def zM4 (s:Nat->Nat) (b:HB):HB:=match b with
 | .cells cs=>.cells (zE7 (ren s) cs)
 | .map es=>.map (zE7 (fun p=>(ren s p.1,ren s p.2)) es)
def zQm (s:Nat->Nat) (H:Hp):Hp:=zE7 (fun p=>(s p.1,zM4 s p.2)) H
def zR5 (s:Nat->Nat) (H2:Hp) (H:Hp):Bool:=List.rec true (fun p _ ih=>Bool.and (Option.rec false (fun b=>zO4 (zM4 s p.2) b) (hget H2 (s p.1))) ih) H
def zOb (l:List Nat):Bool:=List.rec true (fun a l ih=>Bool.and (List.rec true (fun b _ ih=>Bool.and (Bool.not (Nat.beq a b)) ih) l) ih) l
def zFe (e:ME) (args:List AV) (H:Hp) (n:Nat) (s:List Nat):Bool:=
 Bool.and (Nat.beq (zJK s) e.k) (Bool.and (zOb s) (Bool.and (zKK (.agg (zE7 (ren (sg s n e.k)) e.args)) (.agg args)) (zR5 (sg s n e.k) H e.H)))
def zTW (e:ME) (args:List AV) (H:Hp) (n:Nat):Option RV:=zA6 (zio (zcW args) H e.paths []) fun s=>
 Bool.rec none (some (.ok (ren (sg s n e.k) e.v) (app (zQm (sg s n e.k) e.new) H) (Nat.add n (Nat.sub e.n' e.k)))) (zFe e args H n s)
def zHv (args:List AV) (H:Hp) (n:Nat) (l:List ME):Option RV:=List.rec none (fun e _ ih=>Option.rec ih (fun r=>some r) (zTW e args H n)) l
def zJz (B:Big) (f:Nat) (args:List AV) (H:Hp) (n:Nat):Option RV:=
 List.rec none (fun p _ ih=>Bool.rec ih (zHv args H n p.2) (Nat.beq p.1 f)) B.memo
def zSk (B:Big) (f:Nat) (args:List AV) (H:Hp):Option AV:=zA6 (PT.get none B.nat f) fun nf=>nf H args
def zEI (B:Big) (ev:Ev B.E):zAr:=fun f args H n=>
 Option.rec (Option.rec (Option.rec .fail (fun fd=>enter B ev fd args H n) (PT.get none B.fn f)) (fun v=>.ok v H n) (zSk B f args H)) (fun r=>r) (zJz B f args H n)
def zMm {E:Env}{D:Nat}(ev:CC E D->Tm->Hp->Nat->Res) (a b:CC E D) (T:Tm) (H:Hp) (n:Nat):Res:=
 Res.rec .fail (fun x T H n=>Ex.rec (ev b T H n) (.ok .ret T H n) (fun i=>.ok (.exit i) T H n) x) (ev a T H n)
def zFV {E:Env}{D:Nat}(ev:CC E D->Tm->Hp->Nat->Res) (c:Operand) (a b:CC E D) (T:Tm) (H:Hp) (n:Nat):Res:=match zAf T c with
 | .b t=>Bool.rec (ev b T H n) (ev a T H n) t
 | _=>.fail
def zC4 {E:Env}{D:Nat}(ev:CC E D->Tm->Hp->Nat->Res) (id:Nat) (b:CC E D) (T:Tm) (H:Hp) (n:Nat):Res:=
 Res.rec .fail (fun x T H n=>Ex.rec (.ok .nrm T H n) (.ok .ret T H n) (fun i=>Bool.rec (.ok (.exit i) T H n) (.ok .nrm T H n) (Nat.beq i id)) x) (ev b T H n)
def zFW {E:Env}{D:Nat}(ev:CC E D->Tm->Hp->Nat->Res) (b:CC E D) (T:Tm) (H:Hp) (n:Nat):Res:=
 Res.rec .fail (fun x T H n=>Ex.rec (ev (.loop b) T H n) (.ok .ret T H n) (fun i=>.ok (.exit i) T H n) x) (ev b T H n)
def evF (B:Big) (ev:Ev B.E):Ev B.E:=fun D c=>
 CC.rec (motive:=fun _=>Tm->Hp->Nat->Res) (Res.ok .nrm) (Res.ok .ret) (fun i=>Res.ok (.exit i)) (fun _=>Res.ok .nrm)
  (fun a b _ _=>zMm (ev D) a b) (fun c a b _ _=>zFV (ev D) c a b) (fun id b _=>zC4 (ev D) id b) (fun b _=>zFW (ev D) b) (fun b _=>ev D b)
  (fun _ _ _ r _=>r (zEI B ev)) (fun _ _ _ _=>.fail) c
def ev (B:Big) (fuel:Nat):Ev B.E:=
 Nat.rec (motive:=fun _=>Ev B.E) (fun _ _ _ _ _=>.fail) (fun _ ih=>evF B ih) fuel
abbrev cI (n:Nat):AV:=.i .i64 (.ofNat n)
abbrev cJ (n:Nat):AV:=.i .i64 (.negSucc n)
abbrev cF:AV:=.b false
abbrev cT:AV:=.b true
abbrev zFv (v:Value):Bool:=v.oneCell'
abbrev Io:=Nat->Option (Nat×Nat)
def zA1 (w:World) (b o:Nat) (vs:List Value):Prop:=∀ (j:Nat) v,vs[j]? = some v->w.cell? ⟨b,o+j,none⟩=some v
mutual
inductive Rel (ι:Io) (fz:Nat->Prop) (w:World):AV->Value->Prop
 | i (k:IntKind) (n:Int):Rel ι fz w (.i k n) (.int k n)
 | b (t:Bool):Rel ι fz w (.b t) (.bool t)
 | v (x:Value):Rel ι fz w (.v x) x
 | any (x:Value):Rel ι fz w .any x
 | lim (n:Nat) (A:Option Addr) (len c:Nat) (h:SL w A len c (zAa n)) (hf:∀ad,A=some ad->0<len->fz ad.block):Rel ι fz w (.lim n) (.slice A len c)
 | fsl (cs:List AV) (vs:List Value) (len b o c:Nat) (hf:fz b) (hc:zA1 w b o vs) (hl:len<=c) (h:zA5 ι fz w true cs vs):Rel ι fz w (.fsl cs len) (.slice (some ⟨b,o,none⟩) len c)
 | fpt (cs:List AV) (vs:List Value) (b o:Nat) (hf:fz b) (hc:zA1 w b o vs) (h:zA5 ι fz w true cs vs):Rel ι fz w (.fpt cs) (.pointer (some ⟨b,o,none⟩))
 | sl (id off len k:Nat) (cap:Option Nat) (b s c:Nat) (hi:ι id=some (b,s)) (hs:off+c*k<=s) (hl:len<=c) (hc:∀m,cap=some m->m=c) (hm:c<=9223372036854775807):Rel ι fz w (.sl id off len k cap) (.slice (some ⟨b,off,none⟩) len c)
 | ptr (id off b s:Nat) (hi:ι id=some (b,s)):Rel ι fz w (.ptr id off) (.pointer (some ⟨b,off,none⟩))
 | map (id b s:Nat) (hi:ι id=some (b,s)):Rel ι fz w (.map id) (.map (some b))
 | agg (cs:List AV) (vs:List Value) (h:zA5 ι fz w true cs vs):Rel ι fz w (.agg cs) (.agg vs.toArray)
 | tup (cs:List AV) (vs:List Value) (h:zA5 ι fz w false cs vs):Rel ι fz w (.tup cs) (.tuple vs.toArray)
 | fn (f:FuncId) (cs:List AV) (vs:List Value) (h:zA5 ι fz w false cs vs):Rel ι fz w (.fn f cs) (.func (.func f) #[] vs.toArray)
 | ifc (t:Nat) (x:AV) (v:Value) (h:Rel ι fz w x v):Rel ι fz w (.ifc t x) (.iface t v)
inductive zA5 (ι:Io) (fz:Nat->Prop) (w:World):Bool->List AV->List Value->Prop
 | nil (c:Bool):zA5 ι fz w c [] []
 | cons (c:Bool) (x:AV) (v:Value) (xs:List AV) (vs:List Value) (h:Rel ι fz w x v) (hc:c=true->zFv v=true) (hs:zA5 ι fz w c xs vs):zA5 ι fz w c (x::xs) (v::vs)
end
theorem zFr {w w':World}{b o:Nat}{vs:List Value}(h:zA1 w b o vs) (hw:w'.heap[b]? = w.heap[b]?):zA1 w' b o vs:=by
 intro j v hv;rw [<- h j v hv];simp only [World.cell?,hw]
theorem zTP {w w':World}{A:Option Addr}{n c:Nat}{l:List Nat}(h:SL w A n c l) (hw:∀ad,A=some ad->0<n->w'.heap[ad.block]? = w.heap[ad.block]?):SL w' A n c l:=
 ⟨h.len,h.cap,h.max,h.lt,fun hn=>by
  obtain ⟨b,off,e,hb,hc⟩:=h.at_ hn;have hh:=hw _ e hn;refine ⟨b,off,e,?_,fun j x hj=>?_⟩
  ·have h1:w.heap[b]? = some w.heap[b]:=Array.getElem?_eq_getElem hb
   simp only at hh;rw [h1] at hh;exact (Yv.1 hh).1
  ·rw [<- hc j x hj]
   simp only [World.cell?];simp only at hh;rw [hh]⟩
mutual
theorem Rel.mono {ι ι':Io}{fz fz':Nat->Prop}{w w':World}(hι:∀i p,ι i=some p->ι' i=some p) (hf:∀b,fz b->fz' b) (hw:∀b,fz b->w'.heap[b]? = w.heap[b]?) :
  ∀ {x:AV}{v:Value},Rel ι fz w x v->Rel ι' fz' w' x v
 | _,_,.i k n=>.i k n
 | _,_,.b t=>.b t
 | _,_,.v x=>.v x
 | _,_,.any x=>.any x
 | _,_,.lim n A len c h hfz=>.lim n A len c (zTP h fun ad e hl=>hw _ (hfz ad e hl)) fun ad e hl=>hf _ (hfz ad e hl)
 | _,_,.fsl cs vs len b o c hfz hc hl h=>.fsl cs vs len b o c (hf _ hfz) (zFr hc (hw _ hfz)) hl (zA5.mono hι hf hw h)
 | _,_,.fpt cs vs b o hfz hc h=>.fpt cs vs b o (hf _ hfz) (zFr hc (hw _ hfz)) (zA5.mono hι hf hw h)
 | _,_,.sl id off len k cap b s c hi hs hl hc hm=>.sl id off len k cap b s c (hι _ _ hi) hs hl hc hm
 | _,_,.ptr id off b s hi=>.ptr id off b s (hι _ _ hi)
 | _,_,.map id b s hi=>.map id b s (hι _ _ hi)
 | _,_,.agg cs vs h=>.agg cs vs (zA5.mono hι hf hw h)
 | _,_,.tup cs vs h=>.tup cs vs (zA5.mono hι hf hw h)
 | _,_,.fn f cs vs h=>.fn f cs vs (zA5.mono hι hf hw h)
 | _,_,.ifc t x v h=>.ifc t x v (Rel.mono hι hf hw h)
theorem zA5.mono {ι ι':Io}{fz fz':Nat->Prop}{w w':World}(hι:∀i p,ι i=some p->ι' i=some p) (hf:∀b,fz b->fz' b) (hw:∀b,fz b->w'.heap[b]? = w.heap[b]?) :
  ∀ {c:Bool}{xs:List AV}{vs:List Value},zA5 ι fz w c xs vs->zA5 ι' fz' w' c xs vs
 | _,_,_,.nil c=>.nil c
 | _,_,_,.cons c x v xs vs h hc hs=>.cons c x v xs vs (Rel.mono hι hf hw h) hc (zA5.mono hι hf hw hs)
end
section
variable {ι:Io}{fz:Nat->Prop}{w:World}
theorem zA5.len {c:Bool}:∀ {xs:List AV}{vs:List Value},zA5 ι fz w c xs vs->xs.length=vs.length
 | _,_,.nil _=>rfl
 | _,_,.cons _ _ _ _ _ _ _ hs=>by simp [hs.len]
theorem zA5.get {c:Bool}:∀ {xs:List AV}{vs:List Value},zA5 ι fz w c xs vs->∀ {j:Nat}{x:AV},xs[j]? = some x->∃v,vs[j]? = some v/\Rel ι fz w x v/\(c=true->zFv v=true)
 | _,_,.nil _,j,x,h=>by simp at h
 | _,_,.cons _ _ v _ _ h hc hs,0,x,e=>by simp at e;subst e;exact ⟨v,by simp,h,hc⟩
 | _,_,.cons _ _ v _ _ h hc hs,j+1,x,e=>by
  obtain ⟨u,h1,h2⟩:=hs.get (j:=j) (x:=x) (by simpa using e);exact ⟨u,by simpa using h1,h2⟩
theorem zA5.append {c:Bool}:∀ {xs:List AV}{vs:List Value},zA5 ι fz w c xs vs->∀ {ys:List AV}{us:List Value},zA5 ι fz w c ys us->zA5 ι fz w c (xs++ys) (vs++us)
 | _,_,.nil _,_,_,h=>h
 | _,_,.cons c x v xs vs h hc hs,_,_,h'=>.cons c x v _ _ h hc (hs.append h')
theorem zA5.drop {c:Bool}:∀ {xs:List AV}{vs:List Value},zA5 ι fz w c xs vs->∀ (n:Nat),zA5 ι fz w c (xs.drop n) (vs.drop n)
 | _,_,h,0=>h
 | _,_,.nil c,n+1=>.nil c
 | _,_,.cons c x v xs vs h hc hs,n+1=>by simpa using hs.drop n
theorem zA5.take {c:Bool}:∀ {xs:List AV}{vs:List Value},zA5 ι fz w c xs vs->∀ (n:Nat),zA5 ι fz w c (xs.take n) (vs.take n)
 | _,_,_,0=>by simpa using zA5.nil c
 | _,_,.nil c,n+1=>by simpa using zA5.nil c
 | _,_,.cons c x v xs vs h hc hs,n+1=>by simpa using zA5.cons c x v _ _ h hc (hs.take n)
theorem zA5.cells {c:Bool}:∀ {xs:List AV}{vs:List Value},zA5 ι fz w c xs vs->c=true->∀v∈vs,zFv v=true
 | _,_,.nil _,_,v,hv=>by cases hv
 | _,_,.cons _ x u xs vs h hc hs,e,v,hv=>by
  cases hv with
  | head=>exact hc e
  | tail _ hv=>exact hs.cells e v hv
theorem zA5.single {c:Bool}{x:AV}{v:Value}(h:Rel ι fz w x v) (hc:c=true->zFv v=true):zA5 ι fz w c [x] [v]:=.cons c x v [] [] h hc (.nil c)
end
theorem zBY {w:World}{b o:Nat}{vs:List Value}(h:zA1 w b o vs) (n:Nat):zA1 w b (o+n) (vs.drop n):=by
 intro j v hv;rw [List.getElem?_drop] at hv;rw [Nat.add_assoc];exact h _ v hv
structure Gl where
 B:Nat->Prop
 p:World->Prop
 keep:∀w w',p w->(∀b,B b->w'.heap[b]? = w.heap[b]?)->p w'
inductive zJN (ι:Io) (fz:Nat->Prop) (w:World):List (AV×AV)->List MapEntry->Prop
 | nil:zJN ι fz w [] []
 | cons (p:AV×AV) (e:MapEntry) (ps:List (AV×AV)) (es:List MapEntry) (hk:Rel ι fz w p.1 e.key) (hv:Rel ι fz w p.2 e.val) (h:zJN ι fz w ps es):zJN ι fz w (p::ps) (e::es)
theorem zJN.mono {ι ι':Io}{fz fz':Nat->Prop}{w w':World}(hι:∀i p,ι i=some p->ι' i=some p) (hf:∀b,fz b->fz' b) (hw:∀b,fz b->w'.heap[b]? = w.heap[b]?) {ps:List (AV×AV)}{es:List MapEntry}
  (h:zJN ι fz w ps es):zJN ι' fz' w' ps es:=by
 induction h with
 | nil=>exact .nil
 | cons p e ps es hk hv _ ih=>exact .cons p e ps es (hk.mono hι hf hw) (hv.mono hι hf hw) ih
def zJH (ι:Io) (fz:Nat->Prop) (w:World) (b s:Nat):HB->Prop
 | .cells cs=>∃vs rest t,w.heap[b]? = some (.cells (vs++rest).toArray t (0,0))/\zA5 ι fz w true cs vs/\(vs++rest).length=s
 | .map es=>∃ms clock,w.heap[b]? = some (.map ms.toArray clock)/\zJN ι fz w es ms
theorem zJH.mono {ι ι':Io}{fz fz':Nat->Prop}{w w':World}(hι:∀i p,ι i=some p->ι' i=some p) (hf:∀b,fz b->fz' b) (hw:∀b,fz b->w'.heap[b]? = w.heap[b]?) {b s:Nat}{hb:HB}
  (h:zJH ι fz w b s hb) (he:w'.heap[b]? = w.heap[b]?):zJH ι' fz' w' b s hb:=by
 cases hb with
 | cells cs=>
  obtain ⟨vs,rest,t,h1,h2,h3⟩:=h;exact ⟨vs,rest,t,he.trans h1,h2.mono hι hf hw,h3⟩
 | map es=>
  obtain ⟨ms,clock,h1,h2⟩:=h;exact ⟨ms,clock,he.trans h1,h2.mono hι hf hw⟩
theorem zJH.lt {ι:Io}{fz:Nat->Prop}{w:World}{b s:Nat}{hb:HB}(h:zJH ι fz w b s hb):b<w.heap.size:=by
 cases hb with
 | cells cs=>obtain ⟨vs,rest,t,h1,_⟩:=h;exact (Yv.1 h1).1
 | map es=>obtain ⟨ms,clock,h1,_⟩:=h;exact (Yv.1 h1).1
structure Inv (G:Gl) (ι:Io) (fz:Nat->Prop) (M:Nat->Option HB) (w:World):Prop where
 blk:∀id hb,M id=some hb->∃b s,ι id=some (b,s)/\¬ fz b/\zJH ι fz w b s hb
 inj:∀i j hi hj b s s',M i=some hi->M j=some hj->ι i=some (b,s)->ι j=some (b,s')->i=j
 fzlt:∀b,fz b->b<w.heap.size
 gb:∀b,G.B b->fz b
 gp:G.p w
theorem Inv.sub {G:Gl}{ι:Io}{fz:Nat->Prop}{M M':Nat->Option HB}{w:World}(h:Inv G ι fz M w) (hs:∀id hb,M' id=some hb->M id=some hb):Inv G ι fz M' w:=
 ⟨fun id hb e=>h.blk id hb (hs _ _ e),fun i j hi hj b s s' e1 e2=>h.inj i j hi hj b s s' (hs _ _ e1) (hs _ _ e2),h.fzlt,h.gb,h.gp⟩
def Trk (M:Nat->Option HB) (ι:Io) (b:Nat):Prop:=∃id hb s,M id=some hb/\ι id=some (b,s)
structure zB1 (G:Gl) (ι:Io) (fz:Nat->Prop) (M:Nat->Option HB) (n:Nat) (w:World) (ι':Io) (fz':Nat->Prop) (M':Nat->Option HB) (n':Nat) (w':World):Prop where
 ext:∀i p,ι i=some p->ι' i=some p
 out:∀i,(i<n\/n' <= i)->ι' i=ι i
 fzm:∀b,fz b->fz' b
 fzn:∀b,fz' b->fz b\/w.heap.size<=b
 size:w.heap.size<=w'.heap.size
 keep:∀b,b<w.heap.size->¬ Trk M ι b->w'.heap[b]? = w.heap[b]?
 os:w'.os=w.os
 tape:w'.tape=w.tape
 output:w'.output=w.output
 trk:∀b,Trk M' ι' b->Trk M ι b\/w.heap.size<=b
 inv:Inv G ι' fz' M' w'
section
variable {G:Gl}{ι ι1 ι2:Io}{fz fz1 fz2:Nat->Prop}{M M1 M2:Nat->Option HB}{n n1 n2:Nat}{w w1 w2:World}
theorem Inv.not_trk (h:Inv G ι fz M w) {b:Nat}(hb:fz b):¬ Trk M ι b:=by
 rintro ⟨id,hb',s,e,hi⟩
 obtain ⟨b',s',hi',hn,_⟩:=h.blk id hb' e;rw [hi] at hi';injection hi' with e'
 injection e' with e1 e2
 subst e1;exact hn hb
theorem zB1.fz_same (hI:Inv G ι fz M w) (h:zB1 G ι fz M n w ι1 fz1 M1 n1 w1) (b:Nat) (hb:fz b):w1.heap[b]? = w.heap[b]?:=h.keep b (hI.fzlt b hb) (hI.not_trk hb)
theorem zB1.rel (hI:Inv G ι fz M w) (h:zB1 G ι fz M n w ι1 fz1 M1 n1 w1) {x:AV}{v:Value}(hr:Rel ι fz w x v):Rel ι1 fz1 w1 x v:=hr.mono h.ext h.fzm (h.fz_same hI)
theorem zB1.refl (hI:Inv G ι fz M w) (n:Nat):zB1 G ι fz M n w ι fz M n w:=
 ⟨fun _ _ h=>h,fun _ _=>rfl,fun _ h=>h,fun _ h=>.inl h,Ya _,fun _ _ _=>rfl,rfl,rfl,rfl,fun _ h=>.inl h,hI⟩
theorem zB1.trans (h:zB1 G ι fz M n w ι1 fz1 M1 n1 w1) (h':zB1 G ι1 fz1 M1 n1 w1 ι2 fz2 M2 n2 w2) (hn:n<=n1) (hn':n1<=n2):zB1 G ι fz M n w ι2 fz2 M2 n2 w2 where
 ext i p e:=h'.ext i p (h.ext i p e)
 out i hi:=by
  rw [h'.out i (by omega),h.out i (by omega)]
 fzm b hb:=h'.fzm b (h.fzm b hb)
 fzn b hb:=by
  rcases h'.fzn b hb with h1 | h1
  ·exact h.fzn b h1
  ·exact .inr (Yq h.size h1)
 size:=Yq h.size h'.size
 keep b hb hn:=by
  rw [h'.keep b (by have:=h.size;omega) (fun ht=>by
   rcases h.trk b ht with h1 | h1
   ·exact hn h1
   ·omega),h.keep b hb hn]
 os:=h'.os.trans h.os
 tape:=h'.tape.trans h.tape
 output:=h'.output.trans h.output
 trk b hb:=by
  rcases h'.trk b hb with h1 | h1
  ·exact h.trk b h1
  ·exact .inr (Yq h.size h1)
 inv:=h'.inv
theorem zB1.sub (h:zB1 G ι fz M n w ι1 fz1 M1 n1 w1) (hs:∀id hb,M2 id=some hb->M1 id=some hb):zB1 G ι fz M n w ι1 fz1 M2 n1 w1:=
 ⟨h.ext,h.out,h.fzm,h.fzn,h.size,h.keep,h.os,h.tape,h.output,fun b ⟨id,hb,s,e,hi⟩=>h.trk b ⟨id,hb,s,hs _ _ e,hi⟩,h.inv.sub hs⟩
theorem zB1.up (hI:Inv G ι fz M w) (hs:∀id hb,M1 id=some hb->M id=some hb) (h:zB1 G ι fz M1 n w ι1 fz1 M2 n1 w1)
  (hfresh:∀i,n<=i->i<n1->ι i=none) :
  zB1 G ι fz M n w ι1 fz1 (fun id=>match M2 id with | some hb=>some hb | none=>if M1 id=none then M id else none) n1 w1:=by
 have hfz:∀b,fz b->w1.heap[b]? = w.heap[b]?:=fun b hb=>h.keep b (hI.fzlt b hb) (fun ⟨id,hb',s,e,hi⟩=>hI.not_trk hb ⟨id,hb',s,hs _ _ e,hi⟩)
 have old:∀id hb,M id=some hb->M1 id=none->∃b s,ι id=some (b,s)/\¬ Trk M1 ι b/\b<w.heap.size/\¬ fz b/\zJH ι fz w b s hb:=by
  intro id hb e e1;obtain ⟨b,s,hi,hn,hk⟩:=hI.blk id hb e;refine ⟨b,s,hi,?_,hk.lt,hn,hk⟩;rintro ⟨j,hj,s',ej,hij⟩
  have:=hI.inj id j hb hj b s s' e (hs _ _ ej) hi hij;subst this;rw [e1] at ej;cases ej
 refine ⟨h.ext,h.out,h.fzm,h.fzn,h.size,fun b hb hn=>h.keep b hb (fun ⟨id,hb',s,e,hi⟩=>hn ⟨id,hb',s,hs _ _ e,hi⟩),h.os,h.tape,h.output,?_,?_⟩
 ·rintro b ⟨id,hb,s,e,hi⟩
  simp only at e
  split at e
  ·rename_i hb2 e2
   rcases h.trk b ⟨id,hb2,s,e2,hi⟩ with ⟨j,hj,s',ej,hij⟩ | h1
   ·exact .inl ⟨j,hj,s',hs _ _ ej,hij⟩
   ·exact .inr h1
  ·split at e
   ·rename_i e1
    obtain ⟨b',s',hi',_,_,_,_⟩:=old id hb e e1;have h2:=h.ext _ _ hi';rw [hi] at h2;injection h2 with h2
    injection h2 with h2 h3
    subst h2;exact .inl ⟨id,hb,s',e,hi'⟩
   ·cases e
 ·refine ⟨fun id hb e=>?_,fun i j hi hj b s s' e1 e2 e3 e4=>?_,h.inv.fzlt,h.inv.gb,h.inv.gp⟩
  ·try simp only at e
   split at e
   ·rename_i hb2 e2
    injection e with e
    subst e;exact h.inv.blk id hb2 e2
   ·split at e
    ·rename_i e1
     obtain ⟨b,s,hi,ht,hlt,hn,hk⟩:=old id hb e e1;refine ⟨b,s,h.ext _ _ hi,fun hf=>?_,hk.mono h.ext h.fzm hfz (h.keep b hlt ht)⟩;rcases h.fzn b hf with h1 | h1
     ·exact hn h1
     ·omega
    ·cases e
  ·
   have cls:∀i hi b s,(match M2 i with | some hb=>some hb | none=>if M1 i=none then M i else none)=some hi->ι1 i=some (b,s)->
     (∃h2,M2 i=some h2)\/(∃s',M2 i=none/\M1 i=none/\M i=some hi/\ι i=some (b,s')/\¬ Trk M1 ι b/\b<w.heap.size):=by
    intro i hi b s e e3
    split at e
    ·rename_i hb2 e2;exact .inl ⟨hb2,e2⟩
    ·rename_i e2
     split at e
     ·rename_i e1
      obtain ⟨b',s',hi',ht,hlt,_,_⟩:=old i hi e e1;have h2:=h.ext _ _ hi';rw [e3] at h2;injection h2 with h2
      injection h2 with h2 h3
      subst h2;exact .inr ⟨s',e2,e1,e,hi',ht,hlt⟩
     ·cases e
   rcases cls i hi b s e1 e3 with ⟨a,ea⟩ | ⟨t,ea0,ea,eb,ec,ed,el⟩
   ·rcases cls j hj b s' e2 e4 with ⟨a',ea'⟩ | ⟨t',ea0',ea',eb',ec',ed',el'⟩
    ·exact h.inv.inj i j a a' b s s' ea ea' e3 e4
    ·rcases h.trk b ⟨i,a,s,ea,e3⟩ with h1 | h1
     ·exact absurd h1 ed'
     ·omega
   ·rcases cls j hj b s' e2 e4 with ⟨a',ea'⟩ | ⟨t',ea0',ea',eb',ec',ed',el'⟩
    ·rcases h.trk b ⟨j,a',s',ea',e4⟩ with h1 | h1
     ·exact absurd h1 ed
     ·omega
    ·exact hI.inj i j hi hj b t t' eb eb' ec ec'
end
section
variable {α β:Type}
theorem zBr:∀ (n:Nat) (l:List α),zEJ l n=l.drop n
 | 0,l=>rfl
 | n+1,[]=>rfl
 | n+1,_::r=>zBr n r
theorem zGN:∀ (n:Nat) (l:List α),zI9 l n=l.take n
 | 0,l=>by rw [List.take_zero];rfl
 | n+1,[]=>rfl
 | n+1,a::r=>congrArg (a::·) (zGN n r)
theorem zCx:∀ (l:List α),zJK l=l.length
 | []=>rfl
 | _::r=>congrArg Nat.succ (zCx r)
theorem zGG:∀ (l:List α),zK0 l=l.head?
 | []=>rfl
 | _::_=>rfl
theorem zE9 (l:List α) (n:Nat):nth l n=l[n]?:=by
 unfold nth;rw [zGG,zBr,List.head?_drop]
theorem zCN (f:α->β):∀ (l:List α),zE7 f l=l.map f
 | []=>rfl
 | a::r=>congrArg (f a::·) (zCN f r)
theorem zEq:∀ (a b:List α),app a b=a++b
 | [],_=>rfl
 | x::a,b=>congrArg (x::·) (zEq a b)
theorem zAW {x:Option α}{f:α->Option β}{y:β}(h:zA6 x f=some y):∃a,x=some a/\f a=some y:=by
 cases x with
 | none=>cases h
 | some a=>exact ⟨a,rfl,h⟩
end
theorem zQR (k:Nat):look [] k=.any:=rfl
theorem zBO (i:Nat) (v:AV) (T:Tm) (k:Nat):look ((i,v)::T) k=if i=k then v else look T k:=by
 show (Bool.rec (look T k) v (Nat.beq i k):AV)=_
 cases h:Nat.beq i k
 ·have:i≠k:=fun e=>by subst e;simp at h
  simp [this]
 ·have:i=k:=Yg h
  simp [this]
theorem zGI (k:Nat):hget [] k=none:=rfl
theorem zAY (i:Nat) (v:HB) (H:Hp) (k:Nat):hget ((i,v)::H) k=if i=k then some v else hget H k:=by
 show (Bool.rec (hget H k) (some v) (Nat.beq i k):Option HB)=_
 cases h:Nat.beq i k
 ·have:i≠k:=fun e=>by subst e;simp at h
  simp [this]
 ·have:i=k:=Yg h
  simp [this]
theorem zJk (i:Nat) (v:HB) (H:Hp) (k:Nat) (x:HB):zK1 ((i,v)::H) k x=if i=k then (i,x)::H else (i,v)::zK1 H k x:=by
 show (Bool.rec ((i,v)::zK1 H k x) ((i,x)::H) (Nat.beq i k):Hp)=_
 cases h:Nat.beq i k
 ·have:i≠k:=fun e=>by subst e;simp at h
  simp [this]
 ·have:i=k:=Yg h
  simp [this]
theorem zJj (i:Nat) (v:HB) (H:Hp) (k:Nat):zPj ((i,v)::H) k=if i=k then H else (i,v)::zPj H k:=by
 show (Bool.rec ((i,v)::zPj H k) H (Nat.beq i k):Hp)=_
 cases h:Nat.beq i k
 ·have:i≠k:=fun e=>by subst e;simp at h
  simp [this]
 ·have:i=k:=Yg h
  simp [this]
theorem zHw (p:Nat×HB) (H:Hp) (n:Nat):zKz (p::H) n=if n<=p.1 then zKz H n else p::H:=by
 show (Bool.rec (p::H) (zKz H n) (Nat.ble n p.1):Hp)=_
 cases h:Nat.ble n p.1
 ·have:¬ n<=p.1:=fun e=>by rw [Nat.ble_eq_true_of_le e] at h;cases h
  simp [this]
 ·have:n<=p.1:=Ym h
  simp [this]
def zBc:Nat->Hp->Prop
 | _,[]=>True
 | n,(i,_)::r=>i<n/\zBc i r
theorem zBc.le {n m:Nat}{H:Hp}(h:zBc n H) (hm:n<=m):zBc m H:=by
 cases H with
 | nil=>trivial
 | cons p r=>exact ⟨Yh h.1 hm,h.2⟩
theorem zBc.lt {n:Nat}{H:Hp}(h:zBc n H) {k:Nat}{hb:HB}(e:hget H k=some hb):k<n:=by
 induction H generalizing n with
 | nil=>cases e
 | cons p r ih=>
  obtain ⟨i,v⟩:=p;rw [zAY] at e
  split at e
  ·rename_i hik;subst hik;exact h.1
  ·exact Nat.lt_trans (ih h.2 e) h.1
theorem zBc.none {n:Nat}{H:Hp}(h:zBc n H) {k:Nat}(hk:n<=k):hget H k=none:=by
 cases e:hget H k with
 | none=>rfl
 | some hb=>have:=h.lt e;omega
theorem zBc.new {n:Nat}{H:Hp}(h:zBc n H) (hb:HB):zBc (n+1) ((n,hb)::H):=⟨Nat.lt_succ_self n,h⟩
theorem zBc.set {n:Nat}{H:Hp}(h:zBc n H) (k:Nat) (x:HB):zBc n (zK1 H k x):=by
 induction H generalizing n with
 | nil=>trivial
 | cons p r ih=>
  obtain ⟨i,v⟩:=p;rw [zJk]
  split
  ·exact ⟨h.1,h.2⟩
  ·exact ⟨h.1,ih h.2⟩
theorem zBc.del {n:Nat}{H:Hp}(h:zBc n H) (k:Nat):zBc n (zPj H k):=by
 induction H generalizing n with
 | nil=>trivial
 | cons p r ih=>
  obtain ⟨i,v⟩:=p;rw [zJj]
  split
  ·exact h.2.le (Nat.le_of_lt h.1)
  ·exact ⟨h.1,ih h.2⟩
theorem zBc.drop {n:Nat}{H:Hp}(h:zBc n H) (m:Nat):zBc n (zKz H m):=by
 induction H generalizing n with
 | nil=>trivial
 | cons p r ih=>
  obtain ⟨i,v⟩:=p;rw [zHw]
  split
  ·exact (ih h.2).le (Nat.le_of_lt h.1)
  ·exact h
theorem zLq (H:Hp) (k:Nat) (x:HB) (j:Nat):hget (zK1 H k x) j=if j=k then (hget H k).map (fun _=>x) else hget H j:=by
 induction H with
 | nil=>simp [zK1,zGI]
 | cons p r ih=>
  obtain ⟨i,v⟩:=p;rw [zJk];by_cases hik:i=k
  ·subst hik
   rw [if_pos rfl,zAY,zAY];by_cases hj:i=j
   ·subst hj;simp
   ·rw [if_neg hj,zAY,if_neg hj,if_neg (Ne.symm hj)]
  ·rw [if_neg hik,zAY,ih]
   by_cases hj:i=j
   ·subst hj;rw [if_pos rfl,if_neg hik,zAY,if_pos rfl]
   ·rw [if_neg hj,zAY,if_neg hik,zAY,if_neg hj]
theorem zIh {n:Nat}{H:Hp}(h:zBc n H) (k j:Nat):hget (zPj H k) j=if j=k then none else hget H j:=by
 induction H generalizing n with
 | nil=>simp [zPj,zGI]
 | cons p r ih=>
  obtain ⟨i,v⟩:=p;rw [zJj];by_cases hik:i=k
  ·subst hik
   rw [if_pos rfl,zAY];by_cases hj:j=i
   ·subst hj;rw [if_pos rfl];exact h.2.none (Ya _)
   ·rw [if_neg hj,if_neg (Ne.symm hj)]
  ·rw [if_neg hik,zAY,ih h.2]
   by_cases hj:i=j
   ·subst hj;rw [if_pos rfl,if_neg hik,zAY,if_pos rfl]
   ·rw [if_neg hj,zAY,if_neg hj]
theorem zN7 {n:Nat}{H:Hp}(h:zBc n H) (m j:Nat) (hb:HB) (e:hget (zKz H m) j=some hb):hget H j=some hb:=by
 induction H generalizing n with
 | nil=>exact e
 | cons p r ih=>
  obtain ⟨i,v⟩:=p;rw [zHw] at e
  split at e
  ·have h1:=ih h.2 e
   have h2:=h.2.lt h1;rw [zAY,if_neg (by omega)];exact h1
  ·exact e
theorem zHx (p:Nat×HB) (H:Hp) (n:Nat) (l:List Nat):zDo (p::H) n l=p::H\/zDo (p::H) n l=zDo H n l\/zDo (p::H) n l=p::zDo H n l:=by
 show (Bool.rec (p::H) (Bool.rec (zDo H n l) (p::zDo H n l) (List.rec false (fun a _ ih=>Bool.rec ih true (Nat.beq a p.1)) l)) (Nat.ble n p.1):Hp)=_\/(Bool.rec (p::H) (Bool.rec (zDo H n l) (p::zDo H n l) (List.rec false (fun a _ ih=>Bool.rec ih true (Nat.beq a p.1)) l)) (Nat.ble n p.1):Hp)=_\/(Bool.rec (p::H) (Bool.rec (zDo H n l) (p::zDo H n l) (List.rec false (fun a _ ih=>Bool.rec ih true (Nat.beq a p.1)) l)) (Nat.ble n p.1):Hp)=_
 cases Nat.ble n p.1
 ·exact .inl rfl
 ·cases (List.rec false (fun a _ ih=>Bool.rec ih true (Nat.beq a p.1)) l:Bool)
  ·exact .inr (.inl rfl)
  ·exact .inr (.inr rfl)
theorem zBc.keep {n:Nat}{H:Hp}(h:zBc n H) (m:Nat) (l:List Nat):zBc n (zDo H m l):=by
 induction H generalizing n with
 | nil=>trivial
 | cons p r ih=>
  obtain ⟨i,v⟩:=p;rcases zHx (i,v) r m l with e | e | e <;> rw [e]
  ·exact h
  ·exact (ih h.2).le (Nat.le_of_lt h.1)
  ·exact ⟨h.1,ih h.2⟩
theorem zN8 {n:Nat}{H:Hp}(h:zBc n H) (m:Nat) (l:List Nat) (j:Nat) (hb:HB) (e:hget (zDo H m l) j=some hb):hget H j=some hb:=by
 induction H generalizing n with
 | nil=>exact e
 | cons p r ih=>
  obtain ⟨i,v⟩:=p;rcases zHx (i,v) r m l with e1 | e1 | e1 <;> rw [e1] at e
  ·exact e
  ·have h1:=ih h.2 e
   have h2:=h.2.lt h1;rw [zAY,if_neg (by omega)];exact h1
  ·rw [zAY] at e ⊢
   split at e
   ·rename_i hij;rw [if_pos hij];exact e
   ·rename_i hij;rw [if_neg hij];exact ih h.2 e
theorem zFB:∀ {cs vs l:List AV},zGJ cs vs=some l->vs.length<=cs.length/\l=vs++cs.drop vs.length
 | [],[],l,h=>by cases h;simp
 | [],_::_,l,h=>by cases h
 | c::r,[],l,h=>by cases h;simp
 | c::r,v::vs,l,h=>by
  change (Option.rec none (fun l=>some (v::l)) (zGJ r vs):Option (List AV))=some l at h
  cases e:zGJ r vs with
  | none=>rw [e] at h;cases h
  | some l'=>
   rw [e] at h;injection h with h
   obtain ⟨h1,h2⟩:=zFB e;subst h h2
   simpa using h1
theorem zB6:∀ {n:Nat}{cs vs l:List AV},zDY n cs vs=some l->n+vs.length<=cs.length/\l=cs.take n++vs++cs.drop (n+vs.length)
 | 0,cs,vs,l,h=>by
  have:=zFB (cs:=cs) (vs:=vs) h
  simpa using this
 | n+1,[],vs,l,h=>by cases h
 | n+1,c::r,vs,l,h=>by
  change (Option.rec none (fun l=>some (c::l)) (zDY n r vs):Option (List AV))=some l at h
  cases e:zDY n r vs with
  | none=>rw [e] at h;cases h
  | some l'=>
   rw [e] at h;injection h with h
   obtain ⟨h1,h2⟩:=zB6 e;subst h h2;refine ⟨by simp;omega,?_⟩;simp [Nat.add_right_comm n 1]
def zFN (ι:Io) (fz:Nat->Prop) (w:World) (T:Tm) (a:Act):Prop:=∀t,Rel ι fz w (look T t) (a.tmps.getD t undef)
section
variable {ι:Io}{fz:Nat->Prop}{w:World}
theorem zFN.put {T:Tm}{a:Act}(h:zFN ι fz w T a) {dst:Option Nat}(hd:∀d,dst=some d->d<a.tmps.size) {x:AV}{v:Value}(hv:Rel ι fz w x v):zFN ι fz w (Go.Proofs.YtngjhigieajkmaaGreatDoor.put T dst x) (a.put dst v):=by
 cases dst with
 | none=>exact h
 | some d=>
  intro t
  change Rel ι fz w (look ((d,x)::T) t) ((a.tmps.setIfInBounds d v).getD t undef)
  rw [zBO];by_cases hdt:d=t
  ·subst hdt
   have:=hd d rfl
   simpa [this] using hv
  ·rw [if_neg hdt]
   have:=h t
   simpa [Xb hdt] using this
theorem zFC (a:Act) (dst:Option Nat) (v:Value):(a.put dst v).tmps.size=a.tmps.size:=by
 cases dst <;> simp [Act.put]
theorem zFh (a:Act) (dst:Option Nat) (v:Value):(a.put dst v).defers=a.defers:=by
 cases dst <;> simp [Act.put]
theorem zOd (x:Value):Rel ι fz w (ofV x) x:=by
 unfold ofV
 split
 ·exact .i _ _
 ·exact .b _
 ·exact .any _
 ·rename_i f first caps
  split
  ·rename_i h1 h2
   have e1:first=#[]:=by rw [<- Array.toList_eq_nil_iff];exact h1
   have e2:caps=#[]:=by rw [<- Array.toList_eq_nil_iff];exact h2
   subst e1 e2;exact .fn f [] [] (.nil _)
  ·exact .any _
 ·exact .v _
theorem zL6 {T:Tm}{a:Act}(h:zFN ι fz w T a) (x:Operand):Rel ι fz w (zAf T x) (a.eval x):=by
 cases x with
 | tmp t=>exact h t
 | const v=>exact zOd v
 | global g=>exact .any _
 | func f=>exact .fn f [] [] (.nil _)
end
def zBk (P:Program) (o:Oper) (a:Act) (w:World) (post:Value->World->Prop):Prop:=
 ∀ (K:Act->World->Prop) (Q:Exit->Act->World->Prop),(∀u w',post u w'->K (a.put o.dst u) w')->o.wp P a w K Q
section
variable {P:Program}{o:Oper}{a:Act}{w:World}{post:Value->World->Prop}
theorem zBk.value {u:Value}{w':World}(h:(execOp a.eval o).run P w=.ok (.value u) w') (hp:post u w'):zBk P o a w post:=fun K Q hK=>by
 unfold Oper.wp;rw [h];exact hK _ _ hp
theorem zBk.skip {w':World}(h:(execOp a.eval o).run P w=.ok .skip w') (hp:post undef w'):zBk P o a w post:=fun K Q hK=>by
 unfold Oper.wp;rw [h];exact hK _ _ hp
theorem zBk.enter {f:FuncId}{args:Array Value}{w1:World}(h:(execOp a.eval o).run P w=.ok (.enter f args) w1)
  (hc:Calls P f args w1 fun | .returned v,w'=>post v w' | _,_=>False):zBk P o a w post:=fun K Q hK=>by
 unfold Oper.wp;rw [h];refine hc.mono fun e w' he=>?_
 cases e with
 | returned v=>exact hK _ _ he
 | panicked c=>exact he.elim
 | outgrown=>exact he.elim
theorem zBk.mono {post':Value->World->Prop}(h:zBk P o a w post) (hp:∀u w',post u w'->post' u w'):zBk P o a w post':=fun K Q hK=>h K Q fun u w' hu=>hK u w' (hp u w' hu)
end
end Go.Proofs.YtngjhigieajkmaaGreatDoor
end
