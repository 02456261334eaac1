/- Bundle 4: what the law's walk stands on: E3, M7, M8, Var, C1, K1, Q1, Q2. -/
import Derived.Deep.Slices
import Derived.Deep.Strs
import GoSem.Step
import Derived.Test.YtchkfjgcbbbffaaGreatDoorW1
import Derived.Test.YtchkfjgcbbbffaaGreatDoorW2
import Derived.Test.YtchkfjgcbbbffaaGreatDoorW3
set_option maxRecDepth 100000
set_option maxHeartbeats 20000000
set_option linter.all false
noncomputable section
namespace Go.Proofs.YtchkfjgcbbbffaaGreatDoor
open Go.RowKit Pl Go.Shelf
def zHh (d d':Dy):Int:=if (zAT (val d.l):Int)+d.e<(zAT (val d'.l):Int)+d'.e then -1 else if (zAT (val d'.l):Int)+d'.e<(zAT (val d.l):Int)+d.e then 1 else
 zCT (val d.l*2^(d.e - min d.e d'.e).toNat) (val d'.l*2^(d'.e - min d.e d'.e).toNat)
def zCH (d d':Dy):Int:=if vld d=true/\vld d' = true then (if zBP d<zBP d' then -1 else if zBP d' < zBP d then 1 else if zBP d=0 then 0 else zBP d*zHh d d') else 0
theorem zKk (neg neg':Bool) (A B:Option Addr) (n c m d:Nat) (l l':List Nat) (x x':Int) (w:World) (h:SL w A n c l) (h':SL w B m d l')
  (hv:vld ⟨neg,l,x⟩=true) (hv':vld ⟨neg',l',x'⟩=true) (hne:n≠0) (hne':m≠0) :
  Calls Tryz.prog 67 #[.agg #[.bool neg,.slice A n c,.int .i64 x],.agg #[.bool neg',.slice B m d,.int .i64 x']] w fun e w'=>e=.returned (.int .i64 (zHh ⟨neg,l,x⟩ ⟨neg',l',x'⟩))/\Below w.heap.size w w':=by
 obtain ⟨mn,hmn⟩:∃mn,min x x' = mn:=⟨_,rfl⟩;obtain ⟨b1,b2,b3,b4,b5,b6,b7⟩:=zAU hv ((zAL h).2 hne);obtain ⟨b1',b2',b3',b4',b5',b6',b7'⟩:=zAU hv' ((zAL h').2 hne');have hn256:n<=256:=by rw [<- h.len];exact b1
 have hm256:m<=256:=by rw [<- h'.len];exact b1'
 have B3:=Zh b3;have B3':=Zh b3';have TT:Hid (zCU ⟨neg,l,x⟩=(zAT (val l):Int)+x):=by unfold Hid zCU;rw [if_pos ⟨hv,(zAL h).2 hne⟩]
 have TT':Hid (zCU ⟨neg',l',x'⟩=(zAT (val l'):Int)+x'):=by unfold Hid zCU;rw [if_pos ⟨hv',(zAL h').2 hne'⟩]
 have hm1:mn<=x:=by omega
 have hm2:mn<=x':=by omega
 have hm3:mn=x\/mn=x':=by omega
 simp only at b4 b5 b6 b7 b4' b5' b6' b7';have hm4:-16384<=mn:=by omega
 have HM3:=Zh hm3;have HMN:=Zh hmn;have HR:Hid (zHh ⟨neg,l,x⟩ ⟨neg',l',x'⟩=if (zAT (val l):Int)+x<(zAT (val l'):Int)+x' then -1 else if (zAT (val l'):Int)+x' < (zAT (val l):Int)+x then 1 else
   zCT (val l*2^(x - mn).toNat) (val l' * 2^(x' - mn).toNat)):=by unfold Hid zHh;rw [<- hmn]
 generalize zHh ⟨neg,l,x⟩ ⟨neg',l',x'⟩=r at *;clear b1 b1' b2 b2' b3 b3' hmn hv hv' hm3;go_enter Tryz.func67,Tryz.ntmps67
 go_wp2_with fail
 have k1:=(Blk.new w 41 #[.bool neg,.slice A n c,.int .i64 x]).alloc (.cells #[.bool neg',.slice B m d,.int .i64 x'] 41);have k2:=Blk.newAt (w.alloc (.cells #[.bool neg,.slice A n c,.int .i64 x] 41)) 41 #[.bool neg',.slice B m d,.int .i64 x'] (g:=w.heap.size+1) (by simp);have k5:=(zAE w (.cells #[.bool neg,.slice A n c,.int .i64 x] 41)).alloc (by simp) (.cells #[.bool neg',.slice B m d,.int .i64 x'] 41);have h1:=h.below k5;have h1':=h'.below k5;generalize (w.alloc (.cells #[.bool neg,.slice A n c,.int .i64 x] 41)).alloc (.cells #[.bool neg',.slice B m d,.int .i64 x'] 41)=W0 at *;obtain ⟨s0,s1,s2⟩:=k1.cells3;obtain ⟨t0,t1,t2⟩:=k2.cells3;have hg0:w.heap.size<W0.drew.heap.size:=k1.lt;have hg1:w.heap.size+1<W0.drew.heap.size:=k2.lt
 go_region_held3 (fun W=>W.cell? ⟨w.heap.size,0,none⟩=some (.bool neg)/\W.cell? ⟨w.heap.size,1,none⟩=some (.slice A n c)/\W.cell? ⟨w.heap.size,2,none⟩=some (.int .i64 x)/\W.cell? ⟨w.heap.size+1,0,none⟩=some (.bool neg')/\W.cell? ⟨w.heap.size+1,1,none⟩=some (.slice B m d)/\W.cell? ⟨w.heap.size+1,2,none⟩=some (.int .i64 x'))
  (first | exact ⟨s0,s1,s2,t0,t1,t2⟩ | exact zCn hbA hg0 hg1 ⟨s0,s1,s2,t0,t1,t2⟩ | exact zCn (zAA hbA hbB) hg0 hg1 ⟨s0,s1,s2,t0,t1,t2⟩)
  (first
   | (go_at_call 126; (with_reducible refine (zBB neg A n c l x _ h1.drew (by omega)).mono ?_);rintro e wA ⟨rfl,hbA⟩)
   | (go_at_call 126; (with_reducible refine (zBB neg' B m d l' x' _ (h1'.drew.below hbA) (by omega)).mono ?_);rintro e wB ⟨rfl,hbB⟩))
 rw [TT.out,TT'.out];have hbAB:=zAA hbA hbB;have k1B:=k1.drew.below hbAB hg0;have k2B:=k2.drew.below hbAB hg1;have hbw:Below w.heap.size w wB:=zAA (zAR k5 1) hbAB;have h2:=h1.drew.below hbAB;have h2':=h1'.drew.below hbAB;clear k1 k2 k5 h1 h1' s0 s1 s2 t0 t1 t2 hbA hbB hbAB TT TT' hg0 hg1;obtain ⟨s0,s1,s2⟩:=k1B.cells3;obtain ⟨t0,t1,t2⟩:=k2B.cells3;have hg0:w.heap.size<wB.drew.heap.size:=k1B.lt;have hg1:w.heap.size+1<wB.drew.heap.size:=k2B.lt;generalize hN1:zAT (val l)=N1 at *;generalize hN2:zAT (val l')=N2 at *;have HBN1:=Zh hN1;have HBN2:=Zh hN2;clear hN1 hN2;by_cases c1:(N1:Int)+x<(N2:Int)+x'
 ·have R1:Hid (r = -1):=by unfold Hid;rw [HR.out,if_pos c1]
  go_wp2_with fail
  go_ret;exact ⟨by rw [R1.out];rfl,hbw⟩
 by_cases c2:(N2:Int)+x' < (N1:Int)+x
 ·have R1:Hid (r=1):=by unfold Hid;rw [HR.out,if_neg c1,if_pos c2]
  go_wp2_with fail
  go_ret;exact ⟨by rw [R1.out];rfl,hbw⟩
 have q1e:∃q1:Nat,x - mn=(q1:Int):=⟨(x - mn).toNat,by omega⟩;have q2e:∃q2:Nat,x' - mn=(q2:Int):=⟨(x' - mn).toNat,by omega⟩;obtain ⟨q1,hq1⟩:=q1e;obtain ⟨q2,hq2⟩:=q2e;have hm3:=HM3.out;have hT1:N1+q1<=4097:=by omega
 have hT2:N2+q2<=4097:=by omega
 have hq1b:q1<=65536:=by omega
 have hq2b:q2<=65536:=by omega
 have P1:0<val l:=by have:=B3.out;omega
 have P2:0<val l':=by have:=B3'.out;omega
 have L1:Hid (zAT (val l*2^q1)=N1+q1):=by unfold Hid;rw [zAc _ _ P1,HBN1.out]
 have L2:Hid (zAT (val l' * 2^q2)=N2+q2):=by unfold Hid;rw [zAc _ _ P2,HBN2.out]
 have D1:Hid ((zAa (val l*2^q1)).length<=256):=Yq (zAP _ 129 (by rw [L1.out];omega)) (by omega);have D2:Hid ((zAa (val l' * 2^q2)).length<=256):=Yq (zAP _ 129 (by rw [L2.out];omega)) (by omega);have E1:Hid ((x - mn).toNat=q1):=by unfold Hid;omega
 have E2:Hid ((x' - mn).toNat=q2):=by unfold Hid;omega
 have HRR:Hid (r=zCT (val l*2^q1) (val l' * 2^q2)):=by unfold Hid;rw [HR.out,if_neg c1,if_neg c2,E1.out,E2.out]
 have W1:IntKind.i64.wrap (x - mn)=(q1:Int):=by rw [hq1];exact IntWalk.i64_in _ (by omega)
 have W2:IntKind.i64.wrap (x' - mn)=(q2:Int):=by rw [hq2];exact IntWalk.i64_in _ (by omega)
 clear hm3 hq1 hq2 P1 P2 HR;go_wp2_with fail
 rw [HMN.out]
 go_region_held3 (fun W=>W.cell? ⟨w.heap.size,1,none⟩=some (.slice A n c)/\W.cell? ⟨w.heap.size,2,none⟩=some (.int .i64 x)/\W.cell? ⟨w.heap.size+1,1,none⟩=some (.slice B m d)/\W.cell? ⟨w.heap.size+1,2,none⟩=some (.int .i64 x'))
  (first | exact ⟨s1,s2,t1,t2⟩ | exact zEf hbC hg0 hg1 ⟨s1,s2,t1,t2⟩ | exact zEf (zAA hbC hbD) hg0 hg1 ⟨s1,s2,t1,t2⟩ | exact zEf (zAR (zAA hbC hbD) q) hg0 hg1 ⟨s1,s2,t1,t2⟩)
  (first
   | (go_at_call 128; (with_reducible refine (zAs A n c q1 _ l _ h2.drew hn256 rfl hq1b D1.out).mono ?_);rintro e wC ⟨AC,nC,cC,rfl,hsC,hfC,hbC⟩)
   | (go_at_call 128; (with_reducible refine (zAs B m d q2 _ l' _ (h2'.drew.below hbC) hm256 rfl hq2b D2.out).mono ?_);rintro e wD ⟨AD,nD,cD,rfl,hsD,hfD,hbD⟩)
   | (go_at_call 127; (refine (zDN AC AD nC cC nD cD (zAa (val l*2^q1)) (zAa (val l' * 2^q2)) _ (hsC.below hbD) hsD).mono ?_);rw [zAH,zAH];rintro e wE ⟨rfl,q,rfl⟩))
 go_wp2_with fail
 go_ret;exact ⟨by rw [HRR.out];rfl,zAR (zAA (zAR hbw 1) (zAA hbC hbD)) q⟩
theorem zRk {neg:Bool}{w:World}{A:Option Addr}{n c:Nat}{l:List Nat}{x:Int}(h:SL w A n c l) (hs:zBP ⟨neg,l,x⟩≠0):n≠0:=by
 intro h0;apply hs
 unfold zBP;rw [if_neg (by rw [zAL h];exact fun h=>h.2 h0)]
theorem zFG (d:Dy):zBP d = -1\/zBP d=0\/zBP d=1:=by
 unfold zBP
 split
 ·split <;> simp
 ·simp
theorem zMi (a b:Nat):zCT a b = -1\/zCT a b=0\/zCT a b=1:=by
 unfold zCT
 split
 ·exact .inl rfl
 ·split
  ·exact .inr (.inr rfl)
  ·exact .inr (.inl rfl)
theorem zMX (d d':Dy):zHh d d' = -1\/zHh d d' = 0\/zHh d d' = 1:=by
 unfold zHh
 split
 ·simp
 ·split
  ·simp
  ·exact zMi _ _
theorem zLb (neg neg':Bool) (A B:Option Addr) (n c m d:Nat) (l l':List Nat) (x x':Int) (w:World) (h:SL w A n c l) (h':SL w B m d l') (hn:n<=1000000) (hm:m<=1000000) :
  Calls Tryz.prog 25 #[.agg #[.bool neg,.slice A n c,.int .i64 x],.agg #[.bool neg',.slice B m d,.int .i64 x']] w fun e w'=>e=.returned (.int .i64 (zCH ⟨neg,l,x⟩ ⟨neg',l',x'⟩))/\Below w.heap.size w w':=by
 have HR:Hid (zCH ⟨neg,l,x⟩ ⟨neg',l',x'⟩=if vld ⟨neg,l,x⟩=true/\vld ⟨neg',l',x'⟩=true then (if zBP ⟨neg,l,x⟩<zBP ⟨neg',l',x'⟩ then -1 else if zBP ⟨neg',l',x'⟩<zBP ⟨neg,l,x⟩ then 1 else if zBP ⟨neg,l,x⟩=0 then 0 else zBP ⟨neg,l,x⟩ * zHh ⟨neg,l,x⟩ ⟨neg',l',x'⟩) else 0):=rfl;generalize zCH ⟨neg,l,x⟩ ⟨neg',l',x'⟩=r at *;go_enter Tryz.func25,Tryz.ntmps25
 go_wp2_with fail
 have k1:=(Blk.new w 41 #[.bool neg,.slice A n c,.int .i64 x]).alloc (.cells #[.bool neg',.slice B m d,.int .i64 x'] 41);have k2:=Blk.newAt (w.alloc (.cells #[.bool neg,.slice A n c,.int .i64 x] 41)) 41 #[.bool neg',.slice B m d,.int .i64 x'] (g:=w.heap.size+1) (by simp);have k5:=(zAE w (.cells #[.bool neg,.slice A n c,.int .i64 x] 41)).alloc (by simp) (.cells #[.bool neg',.slice B m d,.int .i64 x'] 41);have h1:=h.below k5;have h1':=h'.below k5;generalize (w.alloc (.cells #[.bool neg,.slice A n c,.int .i64 x] 41)).alloc (.cells #[.bool neg',.slice B m d,.int .i64 x'] 41)=W0 at *;refine (zA4 neg A n c l x _ h1 (by omega)).mono ?_;rintro e w1 ⟨rfl,hb1⟩
 cases hv:vld ⟨neg,l,x⟩
 ·go_wp2_with fail
  go_ret;exact ⟨by rw [HR.out,hv];rfl,zAA k5 hb1⟩
 have HV:=Zh hv;clear hv;obtain ⟨t0,t1,t2⟩:=(k2.below hb1 k2.lt).cells3;go_wp2_with fail
 refine (zA4 neg' B m d l' x' _ (h1'.below hb1) (by omega)).mono ?_;rintro e w2 ⟨rfl,hb2⟩
 have hb02:=zAA hb1 hb2;cases hv':vld ⟨neg',l',x'⟩
 ·go_wp2_with fail
  go_ret;exact ⟨by rw [HR.out,hv'];simp,zAA k5 hb02⟩
 have HV':=Zh hv';clear hv';have k1B:=k1.below hb02 k1.lt;have k2B:=k2.below hb02 k2.lt;have h2:=h1.below hb02;have h2':=h1'.below hb02;have hbw2:=zAA k5 hb02;have HR2:Hid (r=if zBP ⟨neg,l,x⟩<zBP ⟨neg',l',x'⟩ then -1 else if zBP ⟨neg',l',x'⟩<zBP ⟨neg,l,x⟩ then 1 else if zBP ⟨neg,l,x⟩=0 then 0 else zBP ⟨neg,l,x⟩ * zHh ⟨neg,l,x⟩ ⟨neg',l',x'⟩):=by
  unfold Hid;rw [HR.out,if_pos ⟨HV.out,HV'.out⟩]
 clear k1 k2 k5 h1 h1' hb1 hb2 hb02 t0 t1 t2 HR;obtain ⟨s0,s1,s2⟩:=k1B.cells3;obtain ⟨t0,t1,t2⟩:=k2B.cells3;have hg0:w.heap.size<w2.drew.heap.size:=k1B.lt;have hg1:w.heap.size+1<w2.drew.heap.size:=k2B.lt;have sc:=zFG ⟨neg,l,x⟩;have sc':=zFG ⟨neg',l',x'⟩;have HNE:Hid (zBP ⟨neg,l,x⟩≠0->n≠0):=fun hs=>zRk h hs
 have HNE':Hid (zBP ⟨neg',l',x'⟩≠0->m≠0):=fun hs=>zRk h' hs
 have HA:=Zh (zMX ⟨neg,l,x⟩ ⟨neg',l',x'⟩);generalize hS:zBP ⟨neg,l,x⟩=S at *;generalize hS':zBP ⟨neg',l',x'⟩=S' at *;have HS:=Zh hS;have HS':=Zh hS';clear hS hS';go_wp2_with fail
 go_region_held3 (fun W=>W.cell? ⟨w.heap.size,0,none⟩=some (.bool neg)/\W.cell? ⟨w.heap.size,1,none⟩=some (.slice A n c)/\W.cell? ⟨w.heap.size,2,none⟩=some (.int .i64 x)/\W.cell? ⟨w.heap.size+1,0,none⟩=some (.bool neg')/\W.cell? ⟨w.heap.size+1,1,none⟩=some (.slice B m d)/\W.cell? ⟨w.heap.size+1,2,none⟩=some (.int .i64 x'))
  (first | exact ⟨s0,s1,s2,t0,t1,t2⟩ | exact zCn hbA hg0 hg1 ⟨s0,s1,s2,t0,t1,t2⟩ | exact zCn (zAA hbA hbB) hg0 hg1 ⟨s0,s1,s2,t0,t1,t2⟩)
  (first
   | (go_at_call 48; (with_reducible refine (zFH neg A n c l x _ h2.drew (by omega)).mono ?_);rw [HS.out];rintro e wA ⟨rfl,hbA⟩)
   | (go_at_call 48; (with_reducible refine (zFH neg' B m d l' x' _ (h2'.drew.below hbA) (by omega)).mono ?_);rw [HS'.out];rintro e wB ⟨rfl,hbB⟩))
 have hbAB:=zAA hbA hbB;have k1C:=k1B.drew.below hbAB hg0;have k2C:=k2B.drew.below hbAB hg1;have hbw:Below w.heap.size w wB:=zAA (zAR hbw2 1) hbAB;have h3:=h2.drew.below hbAB;have h3':=h2'.drew.below hbAB;clear k1B k2B h2 h2' s0 s1 s2 t0 t1 t2 hbA hbB hbAB hg0 hg1 hbw2 HS HS';obtain ⟨s0,s1,s2⟩:=k1C.cells3;obtain ⟨t0,t1,t2⟩:=k2C.cells3;by_cases c1:S<S'
 ·have R1:Hid (r = -1):=by unfold Hid;rw [HR2.out,if_pos c1]
  go_wp2_with fail
  go_ret;exact ⟨by rw [R1.out];rfl,hbw⟩
 by_cases c2:S' < S
 ·have R1:Hid (r=1):=by unfold Hid;rw [HR2.out,if_neg c1,if_pos c2]
  go_wp2_with fail
  go_ret;exact ⟨by rw [R1.out];rfl,hbw⟩
 obtain rfl:S' = S:=by omega
 by_cases c3:S' = 0
 ·subst c3
  have R1:Hid (r=0):=by unfold Hid;rw [HR2.out];rfl
  go_wp2_with fail
  go_ret;exact ⟨by rw [R1.out];rfl,hbw⟩
 ·have c4:(S' == 0)=false:=by simp;omega
  have HRR:Hid (r=S' * zHh ⟨neg,l,x⟩ ⟨neg',l',x'⟩):=by unfold Hid;rw [HR2.out,if_neg c1,if_neg c2,if_neg c3]
  clear HR2;go_wp2_with fail
  refine (zKk neg neg' A B n c m d l l' x x' _ h3 h3' HV.out HV'.out (HNE.out c3) (HNE'.out c3)).mono ?_;rintro e w5 ⟨rfl,hb5⟩
  have ha:=HA.out;generalize zHh ⟨neg,l,x⟩ ⟨neg',l',x'⟩=ac at *;have hw:IntKind.i64.wrap (S' * ac)=S' * ac:=by
   rcases sc with rfl | rfl | rfl <;> rcases ha with rfl | rfl | rfl <;> rfl
  go_wp2_with fail
  go_ret;exact ⟨by rw [HRR.out];first | rfl | (simp only [hw];rfl),zAA hbw hb5⟩
theorem zKY {neg:Bool}{x:Int}(hv:vld ⟨neg,[],x⟩=true):neg=false/\x=0:=by
 rw [zEm] at hv
 simpa using hv
def za (K v:Nat) (e:Int):Nat:=v*2^(e+(K:Int)).toNat
def zs (K:Nat) (neg:Bool) (v:Nat) (e:Int):Int:=if neg then -(za K v e:Int) else (za K v e:Int)
def zd (K:Nat) (d:Dy):Int:=zs K d.neg (val d.l) d.e
theorem zJF (K v k:Nat) (e:Int) (h:0<=e+(K:Int)):za K (v*2^k) e=za K v (e+(k:Int)):=by
 unfold za;rw [show (e+(k:Int)+(K:Int)).toNat=k+(e+(K:Int)).toNat by omega,Nat.pow_add,Yz]
theorem zJG (K:Nat) (neg:Bool) (v k:Nat) (e:Int) (h:0<=e+(K:Int)):zs K neg (v*2^k) e=zs K neg v (e+(k:Int)):=by
 unfold zs;rw [zJF K v k e h]
theorem zTd (K:Nat) (e:Int):za K 0 e=0:=by simp [za]
theorem zFn (K:Nat) (neg:Bool) (e:Int):zs K neg 0 e=0:=by simp [zs,zTd]
theorem zHT {K v:Nat}{e:Int}(h:0<v):0<za K v e:=Nat.mul_pos h (Nat.pow_pos (by omega))
def zPk (d:Dy):Prop:=zAV d.l/\((d.l=[]/\d.neg=false/\d.e=0)\/(zKd d.l/\val d.l%2=1))
theorem zGX (neg:Bool) (v:Nat) (e:Int):zPk (zAN neg v e):=by
 by_cases h:v=0
 ·subst h
  exact ⟨zAV.nil,.inl ⟨rfl,rfl,rfl⟩⟩
 ·rw [zCb (by omega)]
  refine ⟨zAk _,.inr ⟨zDC _,?_⟩⟩;simp only [zAH];exact (zCj v (by omega)).2
theorem zIT {d:Dy}(hL:zAV d.l) (hv:vld d=true):zPk d:=by
 obtain ⟨neg,l,x⟩:=d;refine ⟨hL,?_⟩;by_cases h:l=[]
 ·subst h
  obtain ⟨rfl,rfl⟩:=zKY hv;exact .inl ⟨rfl,rfl,rfl⟩
 ·have:=zAU hv h
  exact .inr ⟨this.2.1,this.2.2.1⟩
theorem zMT (K:Nat) (neg:Bool) (v:Nat) (e:Int) (h:0<=e+(K:Int)):zd K (zAN neg v e)=zs K neg v e:=by
 by_cases hv:v=0
 ·subst hv
  rw [zFn];exact zFn K false 0
 ·have hs:=(zCj v (by omega)).1
  rw [zCb (by omega)];unfold zd;simp only [zAH];rw [<- zJG K neg _ _ e h];rw [show v / 2^tz v*2^tz v=v from hs.symm]
theorem zNm (K:Nat) (neg:Bool) (v:Nat) (e:Int) (h:0<=e+(K:Int)):0<=(zAN neg v e).e+(K:Int):=by
 unfold zAN
 split
 ·simp [zAZ]
 ·simp only;omega
theorem zVs {K v v':Nat}{e e':Int}(h1:0<=e+(K:Int)) (h2:0<=e' + (K:Int)) (ho:v%2=1) (ho':v' % 2=1) (h:za K v e=za K v' e'):v=v'/\e=e':=by
 unfold za at h;have a:v=2*(v / 2)+1:=by omega
 have b:v' = 2*(v' / 2)+1:=by omega
 have h3:2^(e+(K:Int)).toNat*(2*(v / 2)+1)=2^(e' + (K:Int)).toNat*(2*(v' / 2)+1):=by
  rw [<- a,<- b,Nat.mul_comm,h,Nat.mul_comm]
 have h4:=zES h3;rw [h4] at h;exact ⟨Nat.eq_of_mul_eq_mul_right (Nat.pow_pos (by omega)) h,by omega⟩
theorem zDU (K:Nat) (neg:Bool) (v:Nat) (e:Int):(neg=false/\zs K neg v e=za K v e)\/(neg=true/\zs K neg v e = -(za K v e:Int)):=by
 cases neg
 ·exact .inl ⟨rfl,rfl⟩
 ·exact .inr ⟨rfl,rfl⟩
theorem zRv {K:Nat}{d d':Dy}(hc:zPk d) (hc':zPk d') (h1:0<=d.e+(K:Int)) (h2:0<=d'.e+(K:Int)) (h:zd K d=zd K d'):d=d':=by
 obtain ⟨neg,l,x⟩:=d;obtain ⟨neg',l',x'⟩:=d';obtain ⟨hL,hc⟩:=hc;obtain ⟨hL',hc'⟩:=hc';simp only at hL hL' hc hc' h1 h2;unfold zd at h;simp only at h;rcases hc with ⟨rfl,rfl,rfl⟩ | ⟨t,o⟩ <;> rcases hc' with ⟨rfl,rfl,rfl⟩ | ⟨t',o'⟩
 ·rfl
 ·have:=zHT (K:=K) (e:=x') (show 0<val l' by omega)
  rw [show val []=0 from rfl,zFn] at h;rcases zDU K neg' (val l') x' with ⟨_,e⟩ | ⟨_,e⟩ <;> omega
 ·have:=zHT (K:=K) (e:=x) (show 0<val l by omega)
  rw [show val []=0 from rfl,zFn] at h;rcases zDU K neg (val l) x with ⟨_,e⟩ | ⟨_,e⟩ <;> omega
 ·have p:=zHT (K:=K) (e:=x) (show 0<val l by omega)
  have p':=zHT (K:=K) (e:=x') (show 0<val l' by omega);have fin:neg=neg'->za K (val l) x=za K (val l') x'->(⟨neg,l,x⟩:Dy)=⟨neg',l',x'⟩:=by
   intro hn hz;obtain ⟨hv,hx⟩:=zVs h1 h2 o o' hz;subst hn hx;rw [<- zD3 l hL t,<- zD3 l' hL' t',hv]
  rcases zDU K neg (val l) x with ⟨n,e⟩ | ⟨n,e⟩ <;> rcases zDU K neg' (val l') x' with ⟨n',e'⟩ | ⟨n',e'⟩
  ·exact fin (n.trans n'.symm) (by omega)
  ·omega
  ·omega
  ·exact fin (n.trans n'.symm) (by omega)
theorem zCO {d:Dy}(hv:vld d=true):-16384<=d.e/\d.e<=16384:=by
 obtain ⟨neg,l,x⟩:=d;by_cases h:l=[]
 ·subst h
  obtain ⟨rfl,rfl⟩:=zKY hv;simp
 ·have:=zAU hv h
  exact ⟨this.2.2.2.2.1,this.2.2.2.2.2.1⟩
theorem zLa {K:Nat}{neg:Bool}{v:Nat}{e:Int}{d:Dy}(h:0<=e+(K:Int)) (hc:zAu neg v e=(d,0)):zd K d=zs K neg v e/\vld d=true/\zAV d.l:=by
 unfold zAu at hc
 split at hc
 ·rename_i hr
  have e1:=(Prod.mk.inj hc).1;rw [<- e1];exact ⟨zMT K neg v e h,by rw [zFL];exact hr,(zGX neg v e).1⟩
 ·have:=(Prod.mk.inj hc).2
  omega
theorem zPx {K:Nat}{neg:Bool}{v:Nat}{e:Int}{d:Dy}(h:0<=e+(K:Int)) (hK:16384<=K) (hL:zAV d.l) (hv:vld d=true) (hz:zs K neg v e=zd K d):zAu neg v e=(d,0):=by
 have e1:zAN neg v e=d:=zRv (K:=K) (zGX neg v e) (zIT hL hv) (zNm K neg v e h) (by have:=zCO hv;omega) (by rw [zMT K neg v e h,hz]);unfold zAu;rw [<- zFL,e1,if_pos hv]
theorem zGd {d:Dy}(hL:zAV d.l) (hv:vld d=true):zAu d.neg (val d.l) d.e=(d,0):=
 zPx (K:=16384) (by have:=zCO hv;omega) (Ya _) hL hv rfl
theorem zos (neg:Bool) (v:Nat) (e:Int):(∃d,zAu neg v e=(d,0))\/zAu neg v e=(zAZ,9):=by
 unfold zAu
 split
 ·exact .inl ⟨_,rfl⟩
 ·exact .inr rfl
theorem zPe (K v u:Nat) (e:Int):za K (v+u) e=za K v e+za K u e:=by unfold za;rw [Nat.add_mul]
theorem zPP (neg neg':Bool) (P Q:Nat) (e:Int):∃n v,zDB neg neg' P Q e=zAu n v e/\∀K,zs K n v e=zs K neg P e+zs K neg' Q e:=by
 unfold zDB
 split
 ·rename_i h
  subst h;refine ⟨neg,P+Q,rfl,fun K=>?_⟩;unfold zs;rw [zPe];cases neg
  ·simp
  ·simp;omega
 ·rename_i h
  split
  ·rename_i hlt
   refine ⟨neg',Q - P,rfl,fun K=>?_⟩;have e1:=zPe K (Q - P) P e;rw [show Q - P+P=Q by omega] at e1;unfold zs;cases neg <;> cases neg' <;> simp at h ⊢ <;> omega
  ·rename_i hge
   refine ⟨neg,P - Q,rfl,fun K=>?_⟩;have e1:=zPe K (P - Q) Q e;rw [show P - Q+Q=P by omega] at e1;unfold zs;cases neg <;> cases neg' <;> simp at h ⊢ <;> omega
theorem zFM {K:Nat}{d:Dy}(h:d.l=[]):zd K d=0:=by unfold zd;rw [h];exact zFn _ _ _
theorem zPO {d d':Dy}(hL:zAV d.l) (hL':zAV d'.l) (hv:vld d=true) (hv':vld d' = true) :
  ∃n v e,zGM d d' = zAu n v e/\-16384<=e/\∀K,16384<=K->zs K n v e=zd K d+zd K d':=by
 have x:=zCO hv;have x':=zCO hv';by_cases h:d.l=[]
 ·refine ⟨d'.neg,val d'.l,d'.e,?_,x'.1,fun K _=>?_⟩
  ·unfold zGM;rw [if_pos h,zGd hL' hv']
  ·rw [zFM h];unfold zd;omega
 by_cases h':d'.l=[]
 ·refine ⟨d.neg,val d.l,d.e,?_,x.1,fun K _=>?_⟩
  ·unfold zGM;rw [if_neg h,if_pos h',zGd hL hv]
  ·rw [zFM h'];unfold zd;omega
 obtain ⟨n,v,e1,e2⟩:=zPP d.neg d'.neg (val d.l*2^(d.e - min d.e d'.e).toNat) (val d'.l*2^(d'.e - min d.e d'.e).toNat) (min d.e d'.e);refine ⟨n,v,min d.e d'.e,?_,by omega,fun K hK=>?_⟩
 ·unfold zGM;rw [if_neg h,if_neg h',e1]
 ·rw [e2 K,zJG _ _ _ _ _ (by omega),zJG _ _ _ _ _ (by omega)]
  unfold zd
  congr 2
  ·omega
  ·omega
theorem zNZ {a b x:Dy}(h:zCP a b=(x,0)):vld a=true/\vld b=true/\zGM a b=(x,0):=by
 unfold zCP at h
 split at h
 ·rename_i hv;exact ⟨hv.1,hv.2,h⟩
 ·have:=(Prod.mk.inj h).2;omega
theorem zFp {a b x:Dy}(hL:zAV a.l) (hL':zAV b.l) (h:zCP a b=(x,0)):vld a=true/\vld b=true/\vld x=true/\zAV x.l/\∀K,40000<=K->zd K x=zd K a+zd K b:=by
 obtain ⟨hv,hv',h⟩:=zNZ h;obtain ⟨n,v,e,e1,e2,e3⟩:=zPO hL hL' hv hv';rw [e1] at h;obtain ⟨_,g2,g3⟩:=zLa (K:=16384) (by omega) h;refine ⟨hv,hv',g2,g3,fun K hK=>?_⟩;rw [(zLa (K:=K) (by omega) h).1];exact e3 K (by omega)
theorem zn5 (a b:Dy) (hL:zAV a.l) (hL':zAV b.l):(∃x,zCP a b=(x,0))\/∃k,k≠0/\zCP a b=(zAZ,k):=by
 by_cases hv:vld a=true/\vld b=true
 ·obtain ⟨n,v,e,e1,_⟩:=zPO hL hL' hv.1 hv.2
  unfold zCP;rw [if_pos hv,e1];rcases zos n v e with ⟨d,h⟩ | h
  ·exact .inl ⟨d,h⟩
  ·exact .inr ⟨9,by omega,h⟩
 ·unfold zCP
  rw [if_neg hv];exact .inr ⟨1,by omega,rfl⟩
theorem zBw (W:World):Below W.heap.size W W.drew:=zAR (Yp _ _) 1
theorem zDE {d:Dy}(h:vld d=true):d.l.length<=256:=by
 by_cases hl:d.l=[]
 ·rw [hl];simp
 ·exact (zAU h hl).1
theorem zpg {a b x:Dy}{k:Int}(hL:zAV a.l) (hL':zAV b.l) (h:(x,k)=zCP a b):x.l.length<=256/\(k=0\/x=zAZ):=by
 rcases zn5 a b hL hL' with ⟨y,hy⟩ | ⟨j,hj,hy⟩
 ·rw [hy] at h
  obtain ⟨rfl,rfl⟩:=Prod.mk.inj h;exact ⟨zDE (zFp hL hL' hy).2.2.1,.inl rfl⟩
 ·rw [hy] at h
  obtain ⟨rfl,rfl⟩:=Prod.mk.inj h;exact ⟨by simp [zAZ],.inr rfl⟩
structure Iv where
 lo:Dy
 hi:Dy
 all:Bool
structure Fr where
 c:List Dy
 a:List (List Dy)
 r:List Iv
structure Lk where
 h:Dy
 tube:List Iv
 e:Fr
 v:List (List Dy)
structure Ct where
 prec:Int
 order:Int
 start:Fr
 links:List Lk
def zJM {α:Type}(R:World->List Value->α->Prop):Prop:=∀W W' vs x,R W vs x->Below W.heap.size W W'->R W' vs x
structure Sl {α:Type}(k:Nat) (R:World->List Value->α->Prop) (W:World) (A:Option Addr) (n c:Nat) (xs:List α):Prop where
 len:xs.length=n
 cap:n<=c
 max:c<=9223372036854775807
 at_:0<n->∃b off,A=some ⟨b,off,none⟩/\b<W.heap.size/\∀ (j:Nat) (x:α),xs[j]? = some x->∃vs,vs.length=k/\R W vs x/\∀ (i:Nat) (v:Value),vs[i]? = some v->W.cell? ⟨b,off+j*k+i,none⟩=some v
section
variable {α:Type}{k:Nat}{R:World->List Value->α->Prop}{W W':World}{A:Option Addr}{n c:Nat}{xs:List α}
theorem Sl.next (h:Sl k R W A n c xs) (hR:zJM R) (hb:Below W.heap.size W W'):Sl k R W' A n c xs:=
 ⟨h.len,h.cap,h.max,fun hn=>by
  obtain ⟨b,off,e,hlt,hc⟩:=h.at_ hn;refine ⟨b,off,e,Yh hlt hb.size,fun j x hx=>?_⟩;obtain ⟨vs,h1,h2,h3⟩:=hc j x hx;exact ⟨vs,h1,hR _ _ _ _ h2 hb,fun i v hv=>(hb.cell (p:=⟨b,off+j*k+i,none⟩) hlt).trans (h3 i v hv)⟩⟩
theorem Sl.nil (W:World):Sl k R W none 0 0 []:=⟨rfl,by omega,by omega,fun h=>absurd h (by omega)⟩
theorem Sl.get (h:Sl k R W A n c xs) {j:Nat}(hj:j<n):∃b off x vs,A=some ⟨b,off,none⟩/\b<W.heap.size/\xs[j]? = some x/\vs.length=k/\R W vs x/\∀ (i:Nat) (v:Value),vs[i]? = some v->W.cell? ⟨b,off+j*k+i,none⟩=some v:=by
 obtain ⟨b,off,e,hb,hc⟩:=h.at_ (by omega);have hl:j<xs.length:=by have:=h.len;omega
 obtain ⟨vs,h1,h2,h3⟩:=hc j _ (Yo hl);exact ⟨b,off,xs[j],vs,e,hb,Yo hl,h1,h2,h3⟩
theorem Sl.get' {b off:Nat}(h:Sl k R W (some ⟨b,off,none⟩) n c xs) {j:Nat}(hj:j<n):∃x vs,b<W.heap.size/\xs[j]? = some x/\vs.length=k/\R W vs x/\∀ (i:Nat) (v:Value),vs[i]? = some v->W.cell? ⟨b,off+j*k+i,none⟩=some v:=by
 obtain ⟨b',off',x,vs,e,r⟩:=h.get hj;injection e with e
 injection e with e1 e2
 subst e1 e2;exact ⟨x,vs,r⟩
end
def RD (W:World) (vs:List Value) (d:Dy):Prop:=∃A n c,vs=[.bool d.neg,.slice A n c,.int .i64 d.e]/\SL W A n c d.l
def RI (W:World) (vs:List Value) (x:Iv):Prop:=∃A n c B m d,vs=[.bool x.lo.neg,.slice A n c,.int .i64 x.lo.e,.bool x.hi.neg,.slice B m d,.int .i64 x.hi.e,.bool x.all]/\SL W A n c x.lo.l/\SL W B m d x.hi.l
def RM (W:World) (vs:List Value) (l:List Dy):Prop:=∃A n c,vs=[.slice A n c]/\Sl 3 RD W A n c l
def RF (W:World) (vs:List Value) (f:Fr):Prop:=∃A n c B m d C p q,vs=[.slice A n c,.slice B m d,.slice C p q]/\Sl 3 RD W A n c f.c/\Sl 1 RM W B m d f.a/\Sl 7 RI W C p q f.r
def RL (W:World) (vs:List Value) (x:Lk):Prop:=∃H hn hc T tn tc A n c B m d C p q V vn vc,vs=[.bool x.h.neg,.slice H hn hc,.int .i64 x.h.e,.slice T tn tc,.slice A n c,.slice B m d,.slice C p q,.slice V vn vc]/\
 SL W H hn hc x.h.l/\Sl 7 RI W T tn tc x.tube/\Sl 3 RD W A n c x.e.c/\Sl 1 RM W B m d x.e.a/\Sl 7 RI W C p q x.e.r/\Sl 1 RM W V vn vc x.v
def RC (W:World) (vs:List Value) (x:Ct):Prop:=∃A n c B m d C p q L ln lc,vs=[.int .i64 x.prec,.int .i64 x.order,.slice A n c,.slice B m d,.slice C p q,.slice L ln lc]/\
 Sl 3 RD W A n c x.start.c/\Sl 1 RM W B m d x.start.a/\Sl 7 RI W C p q x.start.r/\Sl 8 RL W L ln lc x.links
theorem zAQ:zJM RD:=by
 rintro W W' vs x ⟨A,n,c,e,h⟩ hb
 exact ⟨A,n,c,e,h.below hb⟩
theorem zAX:zJM RI:=by
 rintro W W' vs x ⟨A,n,c,B,m,d,e,h,h'⟩ hb
 exact ⟨A,n,c,B,m,d,e,h.below hb,h'.below hb⟩
theorem zAh:zJM RM:=by
 rintro W W' vs x ⟨A,n,c,e,h⟩ hb
 exact ⟨A,n,c,e,h.next zAQ hb⟩
theorem zBs:zJM RF:=by
 rintro W W' vs x ⟨A,n,c,B,m,d,C,p,q,e,h1,h2,h3⟩ hb
 exact ⟨A,n,c,B,m,d,C,p,q,e,h1.next zAQ hb,h2.next zAh hb,h3.next zAX hb⟩
theorem zBt:zJM RL:=by
 rintro W W' vs x ⟨H,hn,hc,T,tn,tc,A,n,c,B,m,d,C,p,q,V,vn,vc,e,h1,h2,h3,h4,h5,h6⟩ hb
 exact ⟨H,hn,hc,T,tn,tc,A,n,c,B,m,d,C,p,q,V,vn,vc,e,h1.below hb,h2.next zAX hb,h3.next zAQ hb,h4.next zAh hb,h5.next zAX hb,h6.next zAh hb⟩
theorem zAm:zJM RC:=by
 rintro W W' vs x ⟨A,n,c,B,m,d,C,p,q,L,ln,lc,e,h1,h2,h3,h4⟩ hb
 exact ⟨A,n,c,B,m,d,C,p,q,L,ln,lc,e,h1.next zAQ hb,h2.next zAh hb,h3.next zAX hb,h4.next zBt hb⟩
def zBW (b:Bool) (w:World) (e:Ending) (w':World):Prop:=e=.returned (.bool b)/\Below w.heap.size w w'
open Go.ChangeShapes Go.WideShapes Go.ChangeAt
theorem zUL {α:Type}{cs:List α}(h:cs.length=3):∃c0 c1 c2,cs=[c0,c1,c2]:=by
 match cs,h with
 | [c0,c1,c2],_=>exact ⟨c0,c1,c2,rfl⟩
theorem zcd {α:Type}{cs:List α}(h:cs.length=6):∃c0 c1 c2 c3 c4 c5,cs=[c0,c1,c2,c3,c4,c5]:=by
 match cs,h with
 | [c0,c1,c2,c3,c4,c5],_=>exact ⟨c0,c1,c2,c3,c4,c5,rfl⟩
theorem zce {α:Type}{cs:List α}(h:cs.length=7):∃c0 c1 c2 c3 c4 c5 c6,cs=[c0,c1,c2,c3,c4,c5,c6]:=by
 match cs,h with
 | [c0,c1,c2,c3,c4,c5,c6],_=>exact ⟨c0,c1,c2,c3,c4,c5,c6,rfl⟩
theorem zcf {α:Type}{cs:List α}(h:cs.length=8):∃c0 c1 c2 c3 c4 c5 c6 c7,cs=[c0,c1,c2,c3,c4,c5,c6,c7]:=by
 match cs,h with
 | [c0,c1,c2,c3,c4,c5,c6,c7],_=>exact ⟨c0,c1,c2,c3,c4,c5,c6,c7,rfl⟩
theorem zLA {α:Type}{p:Nat->α->Prop}:∀n,(∀i,i<n->∃d,p i d)->∃xs:List α,xs.length=n/\∀ (j:Nat) (x:α),xs[j]? = some x->p j x:=by
 intro n
 induction n with
 | zero=>intro _;exact ⟨[],rfl,fun j x h=>by simp at h⟩
 | succ n ih=>
  intro h;obtain ⟨xs,h1,h2⟩:=ih (fun i hi=>h i (by omega));obtain ⟨d,hd⟩:=h n (by omega);refine ⟨xs++[d],by simp [h1],fun j x hx=>?_⟩;by_cases hj:j<xs.length
  ·rw [Yw hj] at hx;exact h2 j x hx
  ·have hlt:=(Yb.1 hx).1
   simp at hlt;obtain rfl:j=n:=by omega
   rw [Yx (by omega),h1,Nat.sub_self] at hx;simp at hx;subst hx;exact hd
section
variable {H:Type}{enc:TypeId×Value->H}{W:World}
theorem zI5 {α:Type}{k:Nat}{R:World->List Value->α->Prop}{t e:TypeId}(ht:Tryz.prog.underlying t=some (.slice e)) (hk:Tryz.prog.cellsOf e=k) (hk0:0<k)
  (hR:∀ (fuel:Nat) (cs:List Value) (x:DataW H×List MemPlace),DataW.trod enc Tryz.prog W 0 (fun _=>true) true fuel e cs=some x->∃d,R W cs d)
  {fuel:Nat}{cs:List Value}{x:DataW H×List MemPlace}(h:DataW.trod enc Tryz.prog W 0 (fun _=>true) true fuel t cs=some x):∃A n c xs,cs=[.slice A n c]/\Sl k R W A n c xs:=by
 rcases Deep.open_slice ht h with ⟨rfl,_⟩ | ⟨a,len,cap,m,n,D,Pl,rfl,_,hl,hm,hmm,_,hx⟩
 ·exact ⟨_,_,_,[],rfl,Sl.nil W⟩
 ·rw [hk] at hx
  rw [if_pos rfl] at hmm;obtain ⟨xs,h1,h2⟩:=zLA (α:=α) (p:=fun i d=>∃cs',W.cells? 0 (a.add (i*k)) k=some cs'/\R W cs' d) len (fun i hi=>by
   obtain ⟨cs',h1,h2⟩:=hx i (by omega);obtain ⟨d,hd⟩:=hR _ _ _ h2;exact ⟨d,cs',h1,hd⟩)
  refine ⟨some a,len,cap,xs,rfl,⟨h1,hl,by simpa [maxLen] using hm,fun hn=>?_⟩⟩;obtain ⟨cs0,g1,_⟩:=hx 0 (by omega);have hblk:=World.cells?_block g1 hk0;obtain ⟨_,gl,gc⟩:=World.cells?_some g1;obtain ⟨b,off,spot⟩:=a;have hspot:spot=none:=by
   have h0:=gc 0 hk0;rw [Yo (by omega)] at h0
   simpa [Addr.add] using World.cell?_spot h0
  subst hspot;refine ⟨b,off,rfl,by simpa [Addr.add] using hblk,fun j d hj=>?_⟩;obtain ⟨cs',e1,e2⟩:=h2 j d hj;obtain ⟨_,el,ec⟩:=World.cells?_some e1;refine ⟨cs',el,e2,fun i v hi=>?_⟩;have hik:i<k:=by have:=(Yb.1 hi).1;omega
  have:=ec i hik;rw [hi,zMY,Go.WideShapes.add_plain,<- Nat.add_assoc] at this;exact this
theorem zTv:Tryz.prog.cellsOf 4=1:=by kernel_rfl
theorem zf1:Tryz.prog.cellsOf 3=1:=by kernel_rfl
theorem zTw:Tryz.prog.cellsOf 39=1:=by kernel_rfl
theorem zf0:Tryz.prog.cellsOf 22=1:=by kernel_rfl
theorem zf3:Tryz.prog.cellsOf 23=1:=by kernel_rfl
theorem zf2:Tryz.prog.cellsOf 24=1:=by kernel_rfl
theorem zhJ:Tryz.prog.cellsOf 27=1:=by kernel_rfl
theorem cIv:Tryz.prog.cellsOf 43=7:=by kernel_rfl
theorem cFr:Tryz.prog.cellsOf 26=3:=by kernel_rfl
theorem cLk:Tryz.prog.cellsOf 86=8:=by kernel_rfl
theorem cCt:Tryz.prog.cellsOf 29=6:=by kernel_rfl
theorem zI0 {fuel:Nat}{cs:List Value}{x:DataW H×List MemPlace}(h:DataW.trod enc Tryz.prog W 0 (fun _=>true) true fuel 41 cs=some x):∃d,RD W cs d:=by
 obtain ⟨y0,y1,y2,n,_,hl,h0,h1,h2⟩:=Deep.trod_struct3 Tryz.underlying41 h;rw [zJV] at hl;obtain ⟨c0,c1,c2,rfl⟩:=zUL hl;simp only [zTv,zf1,zTw,List.drop,List.take] at h0 h1 h2;obtain ⟨ng,rfl⟩:=zKp h0;obtain ⟨A,n,c,l,rfl,hS⟩:=zIG h1;obtain ⟨ex,rfl⟩:=zLh h2;exact ⟨⟨ng,l,ex⟩,A,n,c,rfl,hS⟩
theorem zS5 {fuel:Nat}{cs:List Value}{x:DataW H×List MemPlace}(h:DataW.trod enc Tryz.prog W 0 (fun _=>true) true fuel 43 cs=some x):∃d,RI W cs d:=by
 obtain ⟨y0,y1,y2,n,_,hl,h0,h1,h2⟩:=Deep.trod_struct3 Tryz.underlying43 h;rw [cIv] at hl;obtain ⟨c0,c1,c2,c3,c4,c5,c6,rfl⟩:=zce hl;simp only [zTv,zJV,List.drop,List.take] at h0 h1 h2;obtain ⟨d,A,n,c,e,hS⟩:=zI0 h0;obtain ⟨d',A',n',c',e',hS'⟩:=zI0 h1;obtain ⟨al,rfl⟩:=zKp h2;simp only [List.cons.injEq,and_true] at e e';obtain ⟨rfl,rfl,rfl⟩:=e;obtain ⟨rfl,rfl,rfl⟩:=e';exact ⟨⟨d,d',al⟩,A,n,c,A',n',c',rfl,hS,hS'⟩
theorem zMK {fuel:Nat}{cs:List Value}{x:DataW H×List MemPlace}(h:DataW.trod enc Tryz.prog W 0 (fun _=>true) true fuel 22 cs=some x):∃A n c xs,cs=[.slice A n c]/\Sl 3 RD W A n c xs:=
 zI5 Tryz.underlying22 zJV (by omega) (fun _ _ _ h=>zI0 h) h
theorem zS7 {fuel:Nat}{cs:List Value}{x:DataW H×List MemPlace}(h:DataW.trod enc Tryz.prog W 0 (fun _=>true) true fuel 22 cs=some x):∃d,RM W cs d:=by
 obtain ⟨A,n,c,xs,rfl,hS⟩:=zMK h;exact ⟨xs,A,n,c,rfl,hS⟩
theorem zMM {fuel:Nat}{cs:List Value}{x:DataW H×List MemPlace}(h:DataW.trod enc Tryz.prog W 0 (fun _=>true) true fuel 23 cs=some x):∃A n c xs,cs=[.slice A n c]/\Sl 1 RM W A n c xs:=
 zI5 Tryz.underlying23 zf0 (by omega) (fun _ _ _ h=>zS7 h) h
theorem zML {fuel:Nat}{cs:List Value}{x:DataW H×List MemPlace}(h:DataW.trod enc Tryz.prog W 0 (fun _=>true) true fuel 24 cs=some x):∃A n c xs,cs=[.slice A n c]/\Sl 7 RI W A n c xs:=
 zI5 Tryz.underlying24 cIv (by omega) (fun _ _ _ h=>zS5 h) h
theorem zOq {fuel:Nat}{cs:List Value}{x:DataW H×List MemPlace}(h:DataW.trod enc Tryz.prog W 0 (fun _=>true) true fuel 26 cs=some x):∃d,RF W cs d:=by
 obtain ⟨y0,y1,y2,n,_,hl,h0,h1,h2⟩:=Deep.trod_struct3 Tryz.underlying26 h;rw [cFr] at hl;obtain ⟨c0,c1,c2,rfl⟩:=zUL hl;simp only [zf0,zf3,zf2,List.drop,List.take] at h0 h1 h2;obtain ⟨A,n,c,xs,e,h1'⟩:=zMK h0;obtain ⟨B,m,d,ys,e',h2'⟩:=zMM h1;obtain ⟨C,p,q,zs,e'',h3'⟩:=zML h2;simp only [List.cons.injEq,and_true] at e e' e'';subst e e' e'';exact ⟨⟨xs,ys,zs⟩,A,n,c,B,m,d,C,p,q,rfl,h1',h2',h3'⟩
theorem zS6 {fuel:Nat}{cs:List Value}{x:DataW H×List MemPlace}(h:DataW.trod enc Tryz.prog W 0 (fun _=>true) true fuel 86 cs=some x):∃d,RL W cs d:=by
 obtain ⟨y0,y1,y2,y3,n,_,hl,h0,h1,h2,h3⟩:=Joins.trod_struct4 Tryz.underlying86 h;rw [cLk] at hl;obtain ⟨c0,c1,c2,c3,c4,c5,c6,c7,rfl⟩:=zcf hl;simp only [zJV,cFr,zf3,zf2,List.drop,List.take] at h0 h1 h2 h3;obtain ⟨d,Hh,hn,hc,e0,hS⟩:=zI0 h0;obtain ⟨T,tn,tc,ts,e1,hT⟩:=zML h1;obtain ⟨f,A,n,c,B,m,d',C,p,q,e2,f1,f2,f3⟩:=zOq h2;obtain ⟨V,vn,vc,vs,e3,hV⟩:=zMM h3;simp only [List.cons.injEq,and_true] at e0 e1 e2 e3;obtain ⟨rfl,rfl,rfl⟩:=e0;subst e1 e3;obtain ⟨rfl,rfl,rfl⟩:=e2;exact ⟨⟨d,ts,f,vs⟩,Hh,hn,hc,T,tn,tc,A,n,c,B,m,d',C,p,q,V,vn,vc,rfl,hS,hT,f1,f2,f3,hV⟩
theorem zQw {fuel:Nat}{cs:List Value}{x:DataW H×List MemPlace}(h:DataW.trod enc Tryz.prog W 0 (fun _=>true) true fuel 27 cs=some x):∃A n c xs,cs=[.slice A n c]/\Sl 8 RL W A n c xs:=
 zI5 Tryz.underlying27 cLk (by omega) (fun _ _ _ h=>zS6 h) h
theorem zS2 {fuel:Nat}{cs:List Value}{x:DataW H×List MemPlace}(h:DataW.trod enc Tryz.prog W 0 (fun _=>true) true fuel 29 cs=some x):∃d,RC W cs d:=by
 obtain ⟨y0,y1,y2,y3,n,_,hl,h0,h1,h2,h3⟩:=Joins.trod_struct4 Tryz.underlying29 h;rw [cCt] at hl;obtain ⟨c0,c1,c2,c3,c4,c5,rfl⟩:=zcd hl;simp only [zf1,cFr,zhJ,List.drop,List.take] at h0 h1 h2 h3;obtain ⟨pr,rfl⟩:=zLh h0;obtain ⟨od,rfl⟩:=zLh h1;obtain ⟨f,A,n,c,B,m,d',C,p,q,e2,f1,f2,f3⟩:=zOq h2;obtain ⟨V,vn,vc,vs,e3,hV⟩:=zQw h3;simp only [List.cons.injEq,and_true] at e2 e3;subst e3;obtain ⟨rfl,rfl,rfl⟩:=e2;exact ⟨⟨pr,od,f,vs⟩,A,n,c,B,m,d',C,p,q,V,vn,vc,rfl,f1,f2,f3,hV⟩
theorem zNs {b0:Nat}{v:Value}{d:DataW H}{p:List MemPlace}(hv:Value.okWide Tryz.prog W .any b0 29 v) (h:DataW.Trod enc Tryz.prog W 0 (fun _=>true) true 29 v d p) :
  ∃ (vs:List Value) (x:Ct),v=.agg vs.toArray/\RC W vs x:=by
 obtain ⟨cs,rfl,_⟩:=okWide_struct Tryz.underlying29 hv;obtain ⟨fuel,hf⟩:=h;obtain ⟨x,hx⟩:=zS2 hf;exact ⟨_,x,by simp [Value.cells],hx⟩
end
open Go
inductive AV where
 | i (k:IntKind) (n:Int)
 | b (t:Bool)
 | v (x:Value)
 | lim (n:Nat)
 | fsl (cells:List AV) (len:Nat)
 | fpt (cells:List AV)
 | sl (id off len k:Nat) (cap:Option Nat)
 | ptr (id off:Nat)
 | map (id:Nat)
 | agg (cs:List AV)
 | tup (vs:List AV)
 | fn (f:FuncId) (caps:List AV)
 | any
inductive HB where
 | cells (cs:List AV)
 | map (es:List (AV×AV))
abbrev Hp:=List (Nat×HB)
abbrev Tm:=List (Nat×AV)
def look (l:Tm) (k:Nat):AV:=
 List.rec (motive:=fun _=>AV) .any (fun p _ ih=>Prod.rec (fun i v=>Bool.rec ih v (Nat.beq i k)) p) l
def hget (H:Hp) (k:Nat):Option HB:=
 List.rec (motive:=fun _=>Option HB) none (fun p _ ih=>Prod.rec (fun i v=>Bool.rec ih (some v) (Nat.beq i k)) p) H
def zK1 (H:Hp) (k:Nat) (x:HB):Hp:=
 List.rec (motive:=fun _=>Hp) [] (fun p r ih=>Prod.rec (fun i v=>Bool.rec ((i,v)::ih) ((i,x)::r) (Nat.beq i k)) p) H
def zPj (H:Hp) (k:Nat):Hp:=
 List.rec (motive:=fun _=>Hp) [] (fun p r ih=>Prod.rec (fun i v=>Bool.rec ((i,v)::ih) r (Nat.beq i k)) p) H
def zKz (H:Hp) (n:Nat):Hp:=
 List.rec (motive:=fun _=>Hp) [] (fun p r ih=>Bool.rec (p::r) ih (Nat.ble n p.1)) H
def zDo (H:Hp) (n:Nat) (l:List Nat):Hp:=
 List.rec (motive:=fun _=>Hp) [] (fun p r ih=>Bool.rec (p::r) (Bool.rec ih (p::ih) (List.rec false (fun a _ ih=>Bool.rec ih true (Nat.beq a p.1)) l)) (Nat.ble n p.1)) H
inductive PT (α:Type) where
 | lf
 | nd (v:α) (l r:PT α)
def PT.get {α:Type}(d:α) (t:PT α):Nat->α:=
 PT.rec (motive:=fun _=>Nat->α) (fun _=>d) (fun v _ _ ihl ihr n=>Bool.rec (Bool.rec (ihr (Nat.sub (Nat.div n 2) 1)) (ihl (Nat.div n 2)) (Nat.beq (Nat.land n 1) 1)) v (Nat.beq n 0)) t
inductive TC where
 | other | bool | int (k:IntKind) | str | ptr | fnc
 | slice (e:Nat) | arr (n e:Nat) | map (k e:Nat)
 | struct (fs:List (Nat×Nat×Bool))
structure TI where
 c:TC
 size:Nat
 bytes:Nat
 zero:List AV
 eq:Bool
inductive RV where
 | fail
 | ok (v:AV) (H:Hp) (n:Nat)
inductive Ex where
 | nrm | ret
 | exit (id:Nat)
inductive Res where
 | fail
 | ok (x:Ex) (T:Tm) (H:Hp) (n:Nat)
abbrev zAz:=Hp->List AV->Option AV
structure ME where
 k:Nat
 paths:List (Option Nat×Nat)
 args:List AV
 H:Hp
 v:AV
 new:Hp
 n':Nat
structure Env where
 ti:PT (Option TI)
def ofV (x:Value):AV:=
 match x with
 | .int k n=>.i k n
 | .bool t=>.b t
 | .agg _=>.any
 | .func (.func f) first caps=>(match first.toList,caps.toList with | [],[]=>.fn f [] | _,_=>.any)
 | x=>.v x
def zAf (T:Tm) (x:Operand):AV:=
 Operand.rec (motive:=fun _=>AV) (fun t=>look T t) ofV (fun _=>.any) (fun f=>.fn f []) x
def zEJ {α:Type}(l:List α) (n:Nat):List α:=
 Nat.rec (motive:=fun _=>List α->List α) (fun l=>l) (fun _ ih l=>List.rec [] (fun _ r _=>ih r) l) n l
def zI9 {α:Type}(l:List α) (n:Nat):List α:=
 Nat.rec (motive:=fun _=>List α->List α) (fun _=>[]) (fun _ ih l=>List.rec [] (fun a r _=>a::ih r) l) n l
def zJK {α:Type}(l:List α):Nat:=List.rec 0 (fun _ _ ih=>Nat.succ ih) l
def zK0 {α:Type}(l:List α):Option α:=List.rec none (fun a _ _=>some a) l
def nth {α:Type}(l:List α) (n:Nat):Option α:=zK0 (zEJ l n)
def zE7 {α β:Type}(f:α->β) (l:List α):List β:=List.rec [] (fun a _ ih=>f a::ih) l
def app {α:Type}(a b:List α):List α:=List.rec b (fun x _ ih=>x::ih) a
def zA6 {α β:Type}(x:Option α) (f:α->Option β):Option β:=Option.rec none f x
def cells? (x:AV):Option (List AV):=
 AV.rec (motive_1:=fun _=>Option (List AV)) (motive_2:=fun _=>Unit) (fun k n=>some [.i k n]) (fun t=>some [.b t])
  (fun x=>match x with | .agg _=>none | .tuple _=>none | x=>some [.v x]) (fun n=>some [.lim n]) (fun c l _=>some [.fsl c l]) (fun c _=>some [.fpt c])
  (fun id off len k cap=>some [.sl id off len k cap]) (fun id off=>some [.ptr id off]) (fun id=>some [.map id]) (fun cs _=>some cs) (fun _ _=>none) (fun f c _=>some [.fn f c]) none
  () (fun _ _ _ _=>()) x
def zVp (d:Nat):AV:=.i .u32 (Int.ofNat d)
def zIZ (f:Nat):Nat->List AV:=
 Nat.rec (motive:=fun _=>Nat->List AV) (fun _=>[]) (fun _ ih n=>Bool.rec (zVp (Nat.mod n 4294967296)::ih (Nat.div n 4294967296)) [] (Nat.beq n 0)) f
def zER (n:Nat):Nat:=Bool.rec (Nat.succ (Nat.div (Nat.log2 n) 32)) 0 (Nat.beq n 0)
def zDP (agg:Bool) (n:Nat) (l:List AV):Option AV:=
 Bool.rec (zK0 l) ((fun r=>Bool.rec none (some (.agg r)) (Nat.beq (zJK r) n)) (zI9 l n)) agg
def zC6 (c:TC):Bool:=match c with | .arr ..=>true | .struct _=>true | _=>false
def loadAt (H:Hp) (p:AV) (agg:Bool) (n:Nat):Option AV:=
 match p with
 | .ptr id off=>(match hget H id with
  | some (.cells cs)=>zDP agg n (zEJ cs off)
  | _=>none)
 | .fpt cs=>zDP agg n cs
 | _=>none
def zGJ (cs:List AV):List AV->Option (List AV):=
 List.rec (motive:=fun _=>List AV->Option (List AV)) (fun vs=>List.rec (some []) (fun _ _ _=>none) vs)
  (fun c r ih vs=>List.rec (some (c::r)) (fun v vs _=>Option.rec none (fun l=>some (v::l)) (ih vs)) vs) cs
def zDY (n:Nat):List AV->List AV->Option (List AV):=
 Nat.rec (motive:=fun _=>List AV->List AV->Option (List AV)) zGJ
  (fun _ ih cs vs=>List.rec none (fun c r _=>Option.rec none (fun l=>some (c::l)) (ih r vs)) cs) n
def nat? (x:AV):Option Nat:=match x with | .i _ n=>(match n with | .ofNat m=>some m | _=>none) | _=>none
def zHd (k:IntKind) (n:Int):Int:=
 match k,n with
 | .i64,.ofNat m=>Bool.rec (k.wrap n) n (Nat.ble m 9223372036854775807)
 | .i64,.negSucc m=>Bool.rec (k.wrap n) n (Nat.ble m 9223372036854775807)
 | .u32,.ofNat m=>.ofNat (Nat.mod m 4294967296)
 | .u64,.ofNat m=>.ofNat (Nat.mod m 18446744073709551616)
 | k,n=>k.wrap n
def ltI (a b:Int):Bool:=
 match a,b with
 | .ofNat x,.ofNat y=>Nat.ble (Nat.succ x) y
 | .ofNat _,.negSucc _=>false
 | .negSucc _,.ofNat _=>true
 | .negSucc x,.negSucc y=>Nat.ble (Nat.succ y) x
def eqI (a b:Int):Bool:=
 match a,b with
 | .ofNat x,.ofNat y=>Nat.beq x y
 | .negSucc x,.negSucc y=>Nat.beq x y
 | _,_=>false
def kc (k:IntKind):Nat:=IntKind.rec 0 1 2 3 4 5 6 7 k
def zNi (f:Nat->Nat->Nat) (k:IntKind) (a b:Int):Option AV:=
 match a,b with
 | .ofNat x,.ofNat y=>some (.i k (zHd k (.ofNat (f (Nat.mod x (Nat.pow 2 k.bits)) (Nat.mod y (Nat.pow 2 k.bits))))))
 | _,_=>none
def zR6 (op:BinOp):IntKind->Int->Int->Option AV:=
 match op with
 | .add=>fun k a b=>some (.i k (zHd k (Int.add a b)))
 | .sub=>fun k a b=>some (.i k (zHd k (Int.sub a b)))
 | .mul=>fun k a b=>some (.i k (zHd k (Int.mul a b)))
 | .quo=>fun k a b=>Bool.rec (some (.i k (zHd k (Int.tdiv a b)))) none (eqI b (.ofNat 0))
 | .rem=>fun k a b=>Bool.rec (some (.i k (Int.tmod a b))) none (eqI b (.ofNat 0))
 | .eql=>fun _ a b=>some (.b (eqI a b))
 | .neq=>fun _ a b=>some (.b (Bool.not (eqI a b)))
 | .lss=>fun _ a b=>some (.b (ltI a b))
 | .leq=>fun _ a b=>some (.b (Bool.not (ltI b a)))
 | .gtr=>fun _ a b=>some (.b (ltI b a))
 | .geq=>fun _ a b=>some (.b (Bool.not (ltI a b)))
 | .and=>zNi Nat.land
 | .or=>zNi Nat.lor
 | .xor=>zNi Nat.xor
 | _=>fun _ _ _=>none
def zO8 (op:BinOp) (k:IntKind) (a b:Int):Option AV:=
 match a,b with
 | .ofNat x,.ofNat y=>Bool.rec none (match op with
  | .shl=>some (.i k (zHd k (.ofNat (Nat.mul x (Nat.pow 2 y)))))
  | .shr=>some (.i k (.ofNat (Nat.div x (Nat.pow 2 y))))
  | _=>none) (Nat.ble y k.bits)
 | _,_=>none
def zVj (op:BinOp) (x y:List UInt8):Option AV:=
 match op with
 | .eql=>some (.b (x == y))
 | .neq=>some (.b (!(x == y)))
 | .lss=>some (.b (Op.bytesLess x y))
 | .leq=>some (.b (Op.bytesLess x y || x == y))
 | .gtr=>some (.b !(Op.bytesLess x y || x == y))
 | .geq=>some (.b !(Op.bytesLess x y))
 | _=>none
def zCo (xs:List AV):List AV->Option Bool:=
 List.rec (motive:=fun _=>List AV->Option Bool) (fun ys=>List.rec (some true) (fun _ _ _=>none) ys)
  (fun x _ ih ys=>List.rec none (fun y r _=>match x,y with
   | .i j a,.i k b=>Bool.rec none (Bool.rec (some false) (ih r) (eqI a b)) (Nat.beq (kc j) (kc k))
   | _,_=>none) ys) xs
def zOD (x:AV):Option Bool:=
 match x with
 | .v (.slice none _ _)=>some true
 | .sl ..=>some false
 | .fsl ..=>some false
 | .lim n=>Bool.rec (some false) none (Nat.beq n 0)
 | _=>none
def zOC (x:AV):Option Bool:=
 match x with
 | .v (.pointer none)=>some true
 | .ptr _ _=>some false
 | .fpt _=>some false
 | _=>none
def zOB (x:AV):Option Bool:=
 match x with
 | .v .nilFunc=>some true
 | .fn _ _=>some false
 | _=>none
def zRO (op:BinOp) (t:Bool):Option AV:=match op with | .eql=>some (.b t) | .neq=>some (.b (Bool.not t)) | _=>none
def zEu (ti:TI) (op:BinOp) (x y:AV):Option AV:=
 match ti.c with
 | .str=>(match x,y with
  | .v (.string a),.v (.string b)=>zVj op a.data.toList b.data.toList
  | _,_=>none)
 | .bool=>(match x,y with
  | .b a,.b b=>zRO op (Bool.rec (Bool.not b) b a)
  | _,_=>none)
 | .struct _=>Bool.rec none (match x,y with
  | .agg a,.agg b=>Bool.rec none (zA6 (zCo a b) fun t=>zRO op t) (Nat.beq (zJK a) ti.size)
  | _,_=>none) ti.eq
 | .ptr=>nilCmp zOC op x y
 | .slice _=>nilCmp zOD op x y
 | .fnc=>nilCmp zOB op x y
 | _=>none
where
 nilCmp (isNil:AV->Option Bool) (op:BinOp) (x y:AV):Option AV:=
  zA6 (isNil x) fun a=>zA6 (isNil y) fun b=>Bool.rec (Bool.rec none (zRO op false) b) (zRO op b) a
def zK6 (op:BinOp):Bool:=match op with | .shl=>true | .shr=>true | _=>false
def binop (E:Env) (op:BinOp) (t:Nat) (x y:AV):Option AV:=
 match x with
 | .i k a=>(match y with
  | .i k' b=>Bool.rec (Bool.rec none (zR6 op k a b) (Nat.beq (kc k) (kc k'))) (zO8 op k a b) (zK6 op)
  | _=>none)
 | x=>zA6 (PT.get none E.ti t) fun ti=>zEu ti op x y
def lenOf (x:AV):Option Nat:=
 match x with
 | .sl _ _ l _ _=>some l
 | .fsl _ l=>some l
 | .lim n=>some (zER n)
 | .v (.slice none 0 0)=>some 0
 | _=>none
def zE1 (l:List AV) (m:Nat):Option (List AV):=(fun r=>Bool.rec none (some r) (Nat.beq (zJK r) m)) (zI9 l m)
def zBR (H:Hp) (size m:Nat) (x:AV):Option (List AV):=
 match x with
 | .sl id off _ _ _=>(match hget H id with
  | some (.cells cs)=>zE1 (zEJ cs off) (Nat.mul m size)
  | _=>none)
 | .fsl cs _=>zE1 cs (Nat.mul m size)
 | .lim n=>Bool.rec none (zE1 (zIZ 1000 n) m) (Nat.beq size 1)
 | .v (.slice none _ _)=>Bool.rec none (some []) (Nat.beq m 0)
 | _=>none
def zCJ (ρ:Operand->AV) (place:Nat->Option (Nat×Nat)) (ps:List (Nat×Operand)):List AV->Option (List AV):=
 List.rec (motive:=fun _=>List AV->Option (List AV)) (fun cells=>some cells)
  (fun p _ ih cells=>zA6 (place p.1) fun q=>zA6 (cells? (ρ p.2)) fun cs=>Bool.rec none (zA6 (zDY q.1 cells cs) ih) (Nat.beq (zJK cs) q.2)) ps
def zTl (n:Nat) (z:List AV):List AV:=Nat.rec (motive:=fun _=>List AV) [] (fun _ ih=>app z ih) n
def zJs (x y:AV):Option Bool:=
 match x,y with
 | .i j a,.i k b=>Bool.rec none (some (eqI a b)) (Nat.beq (kc j) (kc k))
 | .agg xs,.agg ys=>zCo xs ys
 | _,_=>none
def findKey (k:AV) (es:List (AV×AV)):Option (Option AV):=
 List.rec (some none) (fun p _ ih=>zA6 (zJs k p.1) fun t=>Bool.rec ih (some (some p.2)) t) es
def zJ9 (k v:AV) (es:List (AV×AV)):Option (List (AV×AV)):=
 List.rec (some [(k,v)]) (fun p r ih=>zA6 (zJs k p.1) fun t=>Bool.rec (zA6 ih fun l=>some (p::l)) (some ((p.1,v)::r)) t) es
abbrev zAr:=Nat->List AV->Hp->Nat->RV
abbrev Run:=Env->zAr->Tm->Hp->Nat->RV
def okv (x:Option AV) (H:Hp) (n:Nat):RV:=Option.rec .fail (fun v=>.ok v H n) x
def zTj (cs:List AV) (H:Hp) (n:Nat):RV:=.ok (.ptr n 0) ((n,.cells cs)::H) (Nat.succ n)
def withT (E:Env) (t:Nat) (f:TI->RV):RV:=Option.rec .fail f (PT.get none E.ti t)
def elemT (E:Env) (t:Nat) (f:TI->RV):RV:=withT E t fun ti=>match ti.c with | .slice e=>withT E e f | _=>.fail
def zTc (x:Operand):Run:=fun _ _ T H n=>.ok (zAf T x) H n
def zKb (c a b:Operand):Run:=fun _ _ T H n=>match zAf T c with
 | .b t=>.ok (Bool.rec (zAf T b) (zAf T a) t) H n
 | _=>.fail
def zHN (t:Nat):Run:=fun E _ _ H n=>withT E t fun ti=>zTj ti.zero H n
def zRt (_:Nat) (x:Operand):Run:=fun _ _ T H n=>Option.rec .fail (fun cs=>zTj cs H n) (cells? (zAf T x))
def zOg (fs:List (Nat×Nat×Bool)) (i:Nat):Option (Nat×Nat):=zA6 (nth fs i) fun f=>some (f.1,f.2.1)
def zHO (t:Nat) (ps:Array (Nat×Operand)):Run:=fun E _ T H n=>withT E t fun ti=>
 match ti.c with
 | .struct fs=>okv (zA6 (zCJ (zAf T) (zOg fs) ps.toList ti.zero) fun cs=>some (.agg cs)) H n
 | .arr _ e=>withT E e fun te=>okv (zA6 (zCJ (zAf T) (fun i=>some (Nat.mul i te.size,te.size)) ps.toList ti.zero) fun cs=>some (.agg cs)) H n
 | _=>.fail
def zBv (t len:Nat) (ps:Array (Nat×Operand)):Run:=fun E _ T H n=>elemT E t fun te=>
 Bool.rec .fail (Option.rec .fail (fun cs=>.ok (.sl n 0 len te.size (some len)) ((n,.cells cs)::H) (Nat.succ n))
  (zCJ (zAf T) (fun i=>some (Nat.mul i te.size,te.size)) ps.toList (zTl len te.zero))) (Nat.ble (Nat.mul len te.size) 16777216)
def zHe (t:Nat) (a:Operand):Run:=fun E _ T H n=>withT E t fun ti=>okv (loadAt H (zAf T a) (zC6 ti.c) ti.size) H n
def zI6 (size:Nat) (a:AV) (vs:List AV) (H:Hp) (n:Nat):RV:=
 match a with
 | .ptr id off=>(match hget H id with
  | some (.cells cs)=>Bool.rec .fail (Option.rec .fail (fun cs'=>.ok (.v undef) (zK1 H id (.cells cs')) n) (zDY off cs vs)) (Nat.beq (zJK vs) size)
  | _=>.fail)
 | _=>.fail
def zMS (t:Nat) (a x:Operand):Run:=fun E _ T H n=>withT E t fun ti=>Option.rec .fail (fun cs=>zI6 ti.size (zAf T a) cs H n) (cells? (zAf T x))
def zRu (x:Operand):Run:=fun _ _ T H n=>match zAf T x with
 | .ptr i o=>.ok (.ptr i o) H n
 | .fpt c=>.ok (.fpt c) H n
 | .fn f c=>.ok (.fn f c) H n
 | _=>.fail
def zTb (op:BinOp) (t:Nat) (x y:Operand) (_:Nat):Run:=fun E _ T H n=>okv (binop E op t (zAf T x) (zAf T y)) H n
def xUn (op:UnOp) (_:Nat) (x:Operand):Run:=fun _ _ T H n=>match op,zAf T x with
 | .neg,.i k a=>.ok (.i k (zHd k (Int.neg a))) H n
 | .not,.b t=>.ok (.b (Bool.not t)) H n
 | _,_=>.fail
def zLT (src dst:Nat) (x:Operand):Run:=fun E _ T H n=>withT E src fun _=>withT E dst fun ti=>match ti.c,zAf T x with
 | .int k,.i _ a=>.ok (.i k (zHd k a)) H n
 | _,_=>.fail
def zKa (f:Fn) (first caps:Array Operand):Run:=fun _ _ T H n=>match f,first.toList with
 | .func f,[]=>.ok (.fn f (zE7 (zAf T) caps.toList)) H n
 | _,_=>.fail
def zLU (t:Nat) (l c:Operand):Run:=fun E _ T H n=>elemT E t fun te=>match nat? (zAf T l),nat? (zAf T c) with
 | some l,some c=>Bool.rec .fail (.ok (.sl n 0 l te.size (some c)) ((n,.cells (zTl c te.zero))::H) (Nat.succ n)) (Bool.and (Nat.ble l c) (Bool.and (Nat.ble c 16777216) (Nat.ble te.bytes 65536)))
 | _,_=>.fail
def zNS (T:Tm) (d:Nat) (x:Option Operand):Option Nat:=Option.rec (some d) (fun x=>nat? (zAf T x)) x
def resl (id off k l h m:Nat) (H:Hp) (n:Nat):RV:=.ok (.sl id (Bool.rec (Nat.add off (Nat.mul l k)) off (Nat.beq m l)) (Nat.sub h l) k (some (Nat.sub m l))) H n
def zHR (t:Nat) (x:Operand) (lo hi mx:Option Operand):Run:=fun E _ T H n=>elemT E t fun te=>
 match zAf T x with
 | .sl id off len k cap=>Bool.rec .fail (match cap with
  | some c=>(match zNS T 0 lo,zNS T len hi,zNS T c mx with
   | some l,some h,some m=>Bool.rec .fail (Bool.rec .fail (resl id off k l h m H n) (Bool.and (Bool.and (Nat.ble l h) (Nat.ble h m)) (Nat.ble m c))) (Option.rec true (fun _=>Option.rec false (fun _=>true) hi) mx)
   | _,_,_=>.fail)
  | none=>(match zNS T 0 lo,zNS T len hi,mx with
   | some l,some h,none=>Bool.rec .fail (.ok (.sl id (Nat.add off (Nat.mul l k)) (Nat.sub h l) k none) H n)
     (Bool.and (Bool.and (Nat.ble l h) (Nat.ble h len)) (Bool.or (Nat.beq l 0) (Nat.ble (Nat.succ l) h)))
   | _,_,_=>.fail)) (Nat.beq k te.size)
 | .fsl cs len=>(match zNS T 0 lo,zNS T len hi,mx with
  | some l,some h,none=>Bool.rec .fail (.ok (.fsl (zEJ cs (Nat.mul l te.size)) (Nat.sub h l)) H n) (Bool.and (Bool.and (Nat.ble l h) (Nat.ble h len)) (Bool.or (Nat.beq l 0) (Nat.ble (Nat.succ l) h)))
  | _,_,_=>.fail)
 | .v (.slice none l c)=>(match zNS T 0 lo,zNS T 0 hi,mx,l,c with
  | some 0,some 0,none,0,0=>.ok (.v (.slice none 0 0)) H n
  | _,_,_,_,_=>.fail)
 | _=>.fail
def zB7 (t:Nat) (x:Operand) (f:Nat):Run:=fun E _ T H n=>withT E t fun ti=>match ti.c with
 | .struct fs=>(match nth fs f with
  | some fd=>Bool.rec (match zAf T x with
   | .ptr id o=>.ok (.ptr id (Nat.add o fd.1)) H n
   | .fpt cs=>.ok (.fpt (zEJ cs fd.1)) H n
   | _=>.fail) .fail (Nat.beq fd.2.1 0)
  | none=>.fail)
 | _=>.fail
def zHP (t:Nat) (x:Operand) (f:Nat):Run:=fun E _ T H n=>withT E t fun ti=>match ti.c,zAf T x with
 | .struct fs,.agg cs=>(match nth fs f with
  | some fd=>okv (zDP fd.2.2 fd.2.1 (zEJ cs fd.1)) H n
  | none=>.fail)
 | _,_=>.fail
def zB8 (t:Nat) (x i:Operand):Run:=fun E _ T H n=>withT E t fun ti=>Option.rec .fail (fun i=>match ti.c with
 | .slice e=>withT E e fun te=>(match zAf T x with
  | .sl id off len _ _=>Bool.rec .fail (.ok (.ptr id (Nat.add off (Nat.mul i te.size))) H n) (Nat.ble (Nat.succ i) len)
  | .fsl cs len=>Bool.rec .fail (.ok (.fpt (zEJ cs (Nat.mul i te.size))) H n) (Nat.ble (Nat.succ i) len)
  | .lim m=>Bool.rec .fail (Bool.rec .fail (.ok (.fpt (zEJ (zIZ 1000 m) i)) H n) (Nat.beq te.size 1)) (Nat.ble (Nat.succ i) (zER m))
  | _=>.fail)
 | .arr len e=>withT E e fun te=>(match zAf T x with
  | .ptr id off=>Bool.rec .fail (.ok (.ptr id (Nat.add off (Nat.mul i te.size))) H n) (Nat.ble (Nat.succ i) len)
  | .fpt cs=>Bool.rec .fail (.ok (.fpt (zEJ cs (Nat.mul i te.size))) H n) (Nat.ble (Nat.succ i) len)
  | _=>.fail)
 | _=>.fail) (nat? (zAf T i))
def zHQ (t:Nat) (x i:Operand):Run:=fun E _ T H n=>withT E t fun ti=>Option.rec .fail (fun i=>match ti.c,zAf T x with
 | .arr len e,.agg cs=>withT E e fun te=>Bool.rec .fail (okv (zDP (zC6 te.c) te.size (zEJ cs (Nat.mul i te.size))) H n) (Nat.ble (Nat.succ i) len)
 | .str,.v (.string s)=>(match nth s.data.toList i with | some b=>.ok (.i .u8 (Int.ofNat b.toNat)) H n | none=>.fail)
 | _,_=>.fail) (nat? (zAf T i))
def zCs (x:Operand) (i:Nat):Run:=fun _ _ T H n=>match zAf T x with
 | .tup vs=>okv (nth vs i) H n
 | _=>.fail
def zCt (_:Nat) (r:Option Operand):Run:=fun _ _ _ H n=>match r with
 | none=>.ok (.map n) ((n,.map [])::H) (Nat.succ n)
 | _=>.fail
def keyT (E:Env) (t:Nat) (x:AV) (f:Nat->RV):RV:=withT E t fun ti=>match ti.c with
 | .map k e=>withT E k fun tk=>(match tk.c,x with
  | .int _,.i _ _=>f e
  | .struct _,.agg cs=>Bool.rec .fail (f e) (Bool.and tk.eq (Nat.beq (zJK cs) tk.size))
  | _,_=>.fail)
 | _=>.fail
def zDy (t:Nat) (m k x:Operand):Run:=fun E _ T H n=>keyT E t (zAf T k) fun _=>match zAf T m with
 | .map id=>(match hget H id with
  | some (.map es)=>Option.rec .fail (fun es=>.ok (.v undef) (zK1 H id (.map es)) n) (zJ9 (zAf T k) (zAf T x) es)
  | _=>.fail)
 | _=>.fail
def zIM (e:TI):Option AV:=Bool.rec (zK0 e.zero) (some (.agg e.zero)) (zC6 e.c)
def zDx (t:Nat) (m k:Operand) (ok:Bool):Run:=fun E _ T H n=>keyT E t (zAf T k) fun e=>match zAf T m with
 | .map id=>(match hget H id with
  | some (.map es)=>Option.rec .fail (fun r=>Option.rec
    (withT E e fun te=>Option.rec .fail (fun z=>.ok (Bool.rec z (.tup [z,.b false]) ok) H n) (zIM te))
    (fun v=>.ok (Bool.rec v (.tup [v,.b true]) ok) H n) r) (findKey (zAf T k) es)
  | _=>.fail)
 | _=>.fail
def zR8 (E:Env) (ts:List TypeId) (args:List AV) (H:Hp) (n:Nat):RV:=
 match args,ts with
 | [x],[t]=>withT E t fun ti=>(match ti.c,x with
  | .slice _,x=>okv (zA6 (lenOf x) fun l=>some (.i .i64 (Int.ofNat l))) H n
  | .str,.v (.string s)=>.ok (.i .i64 (Int.ofNat (zJK s.data.toList))) H n
  | _,_=>.fail)
 | _,_=>.fail
def zR7 (E:Env) (ts:List TypeId) (args:List AV) (H:Hp) (n:Nat):RV:=
 match args,ts with
 | [x],[t]=>withT E t fun ti=>(match ti.c,x with
  | .slice _,.sl _ _ _ _ (some c)=>.ok (.i .i64 (Int.ofNat c)) H n
  | .slice _,.v (.slice none _ c)=>.ok (.i .i64 (Int.ofNat c)) H n
  | _,_=>.fail)
 | _,_=>.fail
def zNN (mx:Bool) (args:List AV) (H:Hp) (n:Nat):RV:=
 match args with
 | [.i k a,.i _ b]=>.ok (.i k (Bool.rec (Bool.rec a b (ltI b a)) (Bool.rec a b (ltI a b)) mx)) H n
 | _=>.fail
def zMc (te:TI) (s:AV) (new:List AV) (m:Nat) (H:Hp) (n:Nat):RV:=
 match s with
 | .v (.slice none 0 0)=>.ok (.sl n 0 m te.size none) ((n,.cells new)::H) (Nat.succ n)
 | .sl id off len k cap=>Bool.rec .fail (match hget H id with
  | some (.cells cs)=>(match cap with
   | some c=>Bool.rec
     (Option.rec .fail (fun old=>.ok (.sl n 0 (Nat.add len m) k none) ((n,.cells (app old new))::H) (Nat.succ n)) (zE1 (zEJ cs off) (Nat.mul len k)))
     (Option.rec .fail (fun cs'=>.ok (.sl id off (Nat.add len m) k (some c)) (zK1 H id (.cells cs')) n) (zDY (Nat.add off (Nat.mul len k)) cs new))
     (Nat.ble (Nat.add len m) c)
   | none=>Bool.rec .fail (Option.rec .fail (fun old=>.ok (.sl n 0 (Nat.add len m) k none) ((n,.cells (app old new))::zPj H id) (Nat.succ n)) (zE1 cs (Nat.mul len k))) (Nat.beq off 0))
  | _=>.fail) (Nat.beq k te.size)
 | _=>.fail
def zGU (E:Env) (ts:List TypeId) (args:List AV) (H:Hp) (n:Nat):RV:=
 match args,ts with
 | [s,x],[t,u]=>elemT E t fun te=>withT E u fun tu=>Bool.rec .fail (match tu.c with
  | .int _=>Option.rec .fail (fun m=>Bool.rec (Bool.rec .fail (zMc te s (zTl m te.zero) m H n) (Nat.ble m 16777216)) (.ok s H n) (Nat.beq m 0)) (nat? x)
  | .slice _=>Option.rec .fail (fun m=>Bool.rec (Bool.rec .fail (Option.rec .fail (fun new=>zMc te s new m H n) (zBR H te.size m x)) (Nat.ble m 16777216)) (.ok s H n) (Nat.beq m 0)) (lenOf x)
  | _=>.fail) (Bool.and (Nat.ble te.bytes 65536) (match lenOf s with | some l=>Nat.ble l 16777216 | none=>false))
 | _,_=>.fail
def zNf (E:Env) (ts:List TypeId) (args:List AV) (H:Hp) (n:Nat):RV:=
 match args,ts with
 | [.sl id off len k _,s],[t,_]=>elemT E t fun te=>Bool.rec .fail (Option.rec .fail (fun ls=>(fun m=>Option.rec .fail (fun new=>match hget H id with
   | some (.cells cs)=>Option.rec .fail (fun cs'=>.ok (.i .i64 (Int.ofNat m)) (zK1 H id (.cells cs')) n) (zDY off cs new)
   | _=>.fail) (zBR H te.size m s)) (Bool.rec len ls (Nat.ble ls len))) (lenOf s)) (Nat.beq k te.size)
 | _,_=>.fail
def zDT (bi:Builtin) (ts:Array TypeId) (args:Array Operand):Run:=fun E _ T H n=>
 match bi with
 | .len=>zR8 E ts.toList (zE7 (zAf T) args.toList) H n
 | .append=>zGU E ts.toList (zE7 (zAf T) args.toList) H n
 | .cap=>zR7 E ts.toList (zE7 (zAf T) args.toList) H n
 | .min=>zNN false (zE7 (zAf T) args.toList) H n
 | .max=>zNN true (zE7 (zAf T) args.toList) H n
 | .copy=>zNf E ts.toList (zE7 (zAf T) args.toList) H n
 | _=>.fail
def zIL (f:Operand) (args:Array Operand):Run:=fun _ call T H n=>match zAf T f with
 | .fn f caps=>call f (app (zE7 (zAf T) args.toList) caps) H n
 | _=>.fail
def zNI (c:Call):Run:=Call.rec (motive:=fun _=>Run) (fun callee args ts=>Callee.rec (motive:=fun _=>Run) (fun f=>zIL f args) (fun _ _ _ _ _ _ _=>.fail) (fun b=>zDT b ts args) callee) c
def zDw:Run:=fun _ _ _ _ _=>.fail
def zFY (o:Op):Run:=
 Op.rec (motive:=fun _=>Run) zTc zTc zKb zHN zRt zHO zBv zDy zHe zMS (fun _=>zDw) (fun _=>zDw) zRu zTb xUn zLT (fun _ _=>zDw) (fun _ _=>zDw) zKa zCt (fun _ _=>zDw) zLU zHR zB7 zHP zB8 zHQ zDx zDy (fun _ _ _=>zDw) (fun _ _ _ _=>zDw) (fun _ _=>zDw) (fun _ _=>zDw) (fun _=>zDw) (fun _ _ _ _=>zDw) zCs zNI (fun _=>zDw) (fun _=>zDw) (fun _=>zDw) (fun _ _=>zDw) (fun _ _ _=>zDw) (fun _ _=>zDw) o
def zBj (ops:List Oper) (T:Tm) (g:Option (Nat×Bool)):Option Bool:=
 Option.rec (some true) (fun p=>match nth ops p.1 with
  | some o=>Option.rec (some false) (fun d=>match look T d with
   | .b t=>some (Bool.rec (Bool.not t) t p.2)
   | .v (.tuple _)=>some false
   | _=>none) o.dst
  | none=>some false) g
def put (T:Tm) (dst:Option Nat) (v:AV):Tm:=Option.rec T (fun d=>(d,v)::T) dst
def zGl (E:Env) (call:zAr) (ops:List Oper) (o:Oper) (T:Tm) (H:Hp) (n:Nat) (k:Tm->Hp->Nat->Res):Res:=
 Oper.rec (motive:=fun _=>Res) (fun dst op _ _ _ guard=>
   Option.rec .fail (fun g=>Bool.rec (k (put T dst (.v undef)) H n)
    (RV.rec .fail (fun v H n=>k (put T dst v) H n) (zFY op E call T H n)) g) (zBj ops T guard)) o
def zKw (E:Env) (call:zAr) (ops:List Oper) (os:List Oper):Tm->Hp->Nat->Res:=
 List.rec (motive:=fun _=>Tm->Hp->Nat->Res) (fun T H n=>.ok .nrm T H n) (fun o _ ih T H n=>zGl E call ops o T H n ih) os
def zKh (args:List AV):Nat->Tm:=
 List.rec (motive:=fun _=>Nat->Tm) (fun _=>[]) (fun a _ ih k=>(k,a)::ih (Nat.succ k)) args
def zHc (E:Env) (T:Tm) (H:Hp) (rs:List ResultVar):Option (List AV):=
 List.rec (some []) (fun r _ ih=>zA6 (ResultVar.rec (motive:=fun _=>Option AV) (fun t=>some (look T t)) (fun a t=>zA6 (PT.get none E.ti t) fun ti=>loadAt H (look T a) (zC6 ti.c) ti.size) r) fun v=>zA6 ih fun l=>some (v::l)) rs
def one (l:List AV):AV:=match l with
 | [x]=>x
 | l=>.tup l
def zVP (H:Hp) (f:Nat):AV->List Nat->List Nat:=
 Nat.rec (motive:=fun _=>AV->List Nat->List Nat) (fun _ r=>r) (fun _ ih x r=>match x with
  | .sl id ..=>(match hget H id with | some (.cells cs)=>List.rec (id::r) (fun c _ r=>ih c r) cs | _=>id::r)
  | .ptr id _=>(match hget H id with | some (.cells cs)=>List.rec (id::r) (fun c _ r=>ih c r) cs | _=>id::r)
  | .map id=>(match hget H id with | some (.map es)=>List.rec (id::r) (fun p _ r=>ih p.2 r) es | _=>id::r)
  | .agg cs=>List.rec r (fun c _ r=>ih c r) cs
  | .tup cs=>List.rec r (fun c _ r=>ih c r) cs
  | .fn _ cs=>List.rec r (fun c _ r=>ih c r) cs
  | _=>r) f
def zGs (mode n0:Nat) (v:AV) (H:Hp) (n:Nat):RV:=
 Bool.rec (Bool.rec (.ok v (zDo H n0 (zVP H 8 v [])) n) (.ok v (zKz H n0) n) (Nat.beq mode 1)) (.ok v H n) (Nat.beq mode 0)
def zBN (N:Nat) (c:Code):Bool:=
 match c with
 | .region _ ops _=>ops.toList.all fun o=>match o.dst with | some d=>Nat.ble (Nat.succ d) N | none=>true
 | .seq a b=>zBN N a && zBN N b
 | .cond _ a b=>zBN N a && zBN N b
 | .block _ b=>zBN N b
 | .loop b=>zBN N b
 | .scope b=>zBN N b
 | .rangeFunc ..=>false
 | _=>true
def eqNat? (x y:Option Nat):Bool:=match x,y with | none,none=>true | some a,some b=>Nat.beq a b | _,_=>false
def zKK (x:AV):AV->Bool:=
 AV.rec (motive_1:=fun _=>AV->Bool) (motive_2:=fun _=>List AV->Bool)
  (fun k n y=>match y with | .i k' n'=>Bool.and (Nat.beq (kc k) (kc k')) (eqI n n') | _=>false)
  (fun t y=>match y with | .b t'=>Bool.rec (Bool.not t') t' t | _=>false)
  (fun v y=>match v,y with
   | .slice none 0 0,.v (.slice none 0 0)=>true
   | .pointer none,.v (.pointer none)=>true
   | .nilFunc,.v .nilFunc=>true
   | .string s,.v (.string s')=>s.data.toList == s'.data.toList
   | _,_=>false)
  (fun n y=>match y with | .lim n'=>Nat.beq n n' | _=>false)
  (fun _ l ih y=>match y with | .fsl c' l'=>Bool.and (Nat.beq l l') (ih c') | _=>false)
  (fun _ ih y=>match y with | .fpt c'=>ih c' | _=>false)
  (fun id off len k cap y=>match y with | .sl id' off' len' k' cap'=>Bool.and (Bool.and (Nat.beq id id') (Nat.beq off off')) (Bool.and (Nat.beq len len') (Bool.and (Nat.beq k k') (eqNat? cap cap'))) | _=>false)
  (fun id off y=>match y with | .ptr id' off'=>Bool.and (Nat.beq id id') (Nat.beq off off') | _=>false)
  (fun id y=>match y with | .map id'=>Nat.beq id id' | _=>false)
  (fun _ ih y=>match y with | .agg c'=>ih c' | _=>false)
  (fun _ ih y=>match y with | .tup c'=>ih c' | _=>false)
  (fun f _ ih y=>match y with | .fn f' c'=>Bool.and (Nat.beq f f') (ih c') | _=>false)
  (fun y=>match y with | .any=>true | _=>false)
  (fun ys=>match ys with | []=>true | _=>false)
  (fun _ _ ihx ihr ys=>match ys with | y::ys=>Bool.and (ihx y) (ihr ys) | []=>false) x
def zO4 (x y:HB):Bool:=match x,y with
 | .cells a,.cells b=>zKK (.agg a) (.agg b)
 | _,_=>false
def zAe (o:Op):Nat:=
 match o with
 | .load ..=>1
 | .lookup ..=>1
 | .alloc _=>2
 | .box ..=>2
 | .buildSlice ..=>2
 | .makeSlice ..=>2
 | .makeMap ..=>2
 | .move _=>0
 | .assign _=>0
 | .pick ..=>0
 | .build ..=>0
 | .nilCheck _=>0
 | .binOp ..=>0
 | .unOp ..=>0
 | .convert ..=>0
 | .makeFunc ..=>0
 | .slice ..=>0
 | .fieldAddr ..=>0
 | .field ..=>0
 | .indexAddr ..=>0
 | .index ..=>0
 | .extract ..=>0
 | .call c=>(match c.callee with
  | .builtin .len=>0
  | .builtin .cap=>0
  | .builtin .min=>0
  | .builtin .max=>0
  | _=>3)
 | _=>3
def zAp (ops:List Oper):List Nat:=
 (ops.foldl (fun (acc:List Nat) o=>o.after.toList.foldl (fun s e=>if Region.binds .any e then s ||| 2^e.on ||| (acc.reverse.getD e.on 0) else s) 0::acc) []).reverse
def zCC (ops:List Oper) (o:Oper):List Nat:=
 (o.op.operands.toList.filterMap fun | .tmp t=>some t | _=>none)++(match o.guard with | some (g,_)=>((ops[g]?).bind (·.dst)).toList | none=>[])
def zIg (o:Oper) (i:Nat):Bool:=o.after.toList.any fun e=>e.on == i && Region.binds .any e
def zPG (ops:List Oper):Bool:=
 ops.zipIdx.all fun (o,j)=>(o.after.toList.all fun e=>!Region.binds .any e || Nat.blt e.on j) &&
  ops.zipIdx.all fun (p,i)=>i == j || match p.dst with
   | none=>true
   | some d=>o.dst != some d && ((zCC ops o).all fun t=>t != d || zIg o i || zIg p j)
def zNp (ops:List Oper):Bool:=
 let b:=zAp ops
 ops.zipIdx.all fun (o,j)=>zAe o.op != 3 || ops.zipIdx.all fun (p,i)=>!(Nat.blt i j) || zAe p.op<2 || (b.getD j 0).testBit i ||
  (zAe p.op == 2 && ops.zipIdx.any fun (q,k)=>Nat.blt i k && Nat.blt k j && zAe q.op == 3)
def zF8 (ops:List Oper):List (Nat×Nat):=
 let b:=zAp ops
 ops.zipIdx.flatMap fun (o,j)=>if zAe o.op == 1 then ops.zipIdx.filterMap fun (p,i)=>if zAe p.op == 3 && !((b.getD j 0).testBit i) && !((b.getD i 0).testBit j) then some (j,i) else none else []
def zRY (ops:List Oper):Bool:=
 ops.zipIdx.all fun (o,j)=>zAe o.op != 1 || ops.zipIdx.all fun (p,i)=>Nat.blt i j || match p.dst with
  | none=>true
  | some d=>(zCC ops o).all fun t=>t != d
def zGj (ops:List Oper):Bool:=zPG ops && zNp ops && zRY ops
def zCz (E:Env) (ab:Bool) (t:Nat) (a v:AV) (H:Hp):Bool:=
 match a with
 | .ptr id _=>Option.rec ab (fun _=>Option.rec false (fun ti=>Option.rec false (fun u=>zKK u v) (loadAt H a (zC6 ti.c) ti.size)) (PT.get none E.ti t)) (hget H id)
 | .fpt _=>true
 | _=>false
def zBa (E:Env) (ops:List Oper) (T:Tm) (sn:List (Nat×Hp×Hp)) (p:Nat×Nat):Bool:=
 match nth ops p.1 with
 | some o=>Option.rec false (fun g=>Bool.rec true (match o.op,o.dst with
  | .load t a,some d=>List.rec (motive:=fun _=>Bool) true (fun s _ ih=>Bool.rec ih (Bool.and (Bool.rec (zCz E true t (zAf T a) (look T d) s.2.1) (zCz E false t (zAf T a) (look T d) s.2.2) (Nat.ble p.1 p.2)) ih) (Nat.beq s.1 p.2)) sn
  | _,_=>false) g) (zBj ops T o.guard)
 | none=>false
def zEx (E:Env) (call:zAr) (ops:List Oper) (os:List Oper):Nat->List (Nat×Hp×Hp)->Tm->Hp->Nat->Res:=
 List.rec (motive:=fun _=>Nat->List (Nat×Hp×Hp)->Tm->Hp->Nat->Res)
  (fun _ sn T H n=>Bool.rec .fail (.ok .nrm T H n) (List.rec (motive:=fun _=>Bool) true (fun p _ ih=>Bool.rec false ih (zBa E ops T sn p)) (zF8 ops)))
  (fun o _ ih i sn T H n=>zGl E call ops o T H n fun T' H' n'=>ih (Nat.succ i) (Bool.rec sn ((i,H,H')::sn) (Nat.beq (zAe o.op) 3)) T' H' n') os
def zHa (E:Env) (call:zAr) (ops:Array Oper) (draw:Bool):Tm->Hp->Nat->Res:=fun T H n=>
 Bool.rec (zKw E call ops.toList ops.toList T H n) (Bool.rec .fail (zEx E call ops.toList ops.toList 0 [] T H n) (zGj ops.toList)) draw
abbrev CR:=zAr->Tm->Hp->Nat->Res
def inD (D t:Nat):Bool:=Nat.beq (Nat.mod (Nat.div D (Nat.pow 2 t)) 2) 1
def zG6 (D c:Nat):Tm->Tm:=
 Nat.rec (motive:=fun _=>Tm->Tm) (fun T=>T) (fun _ ih T=>List.rec [] (fun p r _=>Bool.rec (p::ih r) (ih r) (inD D p.1)) T) c
def zGg (ops:List Oper):Nat:=List.rec 0 (fun o _ ih=>Option.rec ih (fun _=>Nat.succ ih) o.dst) ops
def zR0 (E:Env) (D:Nat) (r:CR) (ops:Array Oper) (draw:Bool):Prop:=
 ∀call T H n x T' H' n',r call T H n=.ok x T' H' n'->∃T1,zHa E call ops draw T H n=.ok x T1 H' n'/\T' = zG6 D (zGg ops.toList) T1
theorem zQC (t:Nat):inD 0 t=false:=by
 unfold inD;have:Nat.mod (Nat.div 0 (Nat.pow 2 t)) 2=0:=by
  show (0 / 2^t)%2=0
  simp
 rw [this];rfl
theorem zG7:∀ (c:Nat) (T:Tm),c<=T.length->zG6 0 c T=T
 | 0,T,_=>rfl
 | c+1,[],h=>by cases h
 | c+1,p::T,h=>by
  show (Bool.rec (p::zG6 0 c T) (zG6 0 c T) (inD 0 p.1):Tm)=p::T
  rw [zQC,zG7 c T (Nat.le_of_succ_le_succ h)]
inductive CC (E:Env) (D:Nat) where
 | skip | ret
 | exit (i:Nat)
 | label (l:Nat)
 | seq (a b:CC E D)
 | cond (c:Operand) (a b:CC E D)
 | block (id:Nat) (b:CC E D)
 | loop (b:CC E D)
 | scope (b:CC E D)
 | reg (id:Nat) (ops:Array Oper) (draw:Bool) (r:CR) (h:zR0 E D r ops draw)
 | bad (c:Code)
def zBA {E:Env}{D:Nat}:CC E D->Code
 | .skip=>.skip
 | .ret=>.ret
 | .exit i=>.exit i
 | .label l=>.label l
 | .seq a b=>.seq (zBA a) (zBA b)
 | .cond c a b=>.cond c (zBA a) (zBA b)
 | .block id b=>.block id (zBA b)
 | .loop b=>.loop (zBA b)
 | .scope b=>.scope (zBA b)
 | .reg id ops draw _ _=>.region id ops draw
 | .bad c=>c
structure FD (E:Env) where
 fn:Func
 gc:Nat
 D:Nat
 cc:CC E D
structure Big where
 E:Env
 fn:PT (Option (FD E))
 nat:PT (Option zAz)
 memo:List (Nat×List ME)
def zDg (D:Nat) (args:List AV):Nat->Tm:=
 List.rec (motive:=fun _=>Nat->Tm) (fun _=>[]) (fun a _ ih k=>Bool.rec ((k,a)::ih (Nat.succ k)) (ih (Nat.succ k)) (inD D k)) args
abbrev Ev (E:Env):=(D:Nat)->CC E D->Tm->Hp->Nat->Res
def enter (B:Big) (ev:Ev B.E) (fd:FD B.E) (args:List AV) (H:Hp) (n:Nat):RV:=
 Res.rec .fail (fun x T H' n'=>Ex.rec
   (Option.rec .fail (fun vs=>zGs fd.gc n (one vs) H' n') (zHc B.E T H' fd.fn.results.toList))
   (Option.rec .fail (fun vs=>zGs fd.gc n (one vs) H' n') (zHc B.E T H' fd.fn.results.toList))
   (fun _=>.fail) x) (ev fd.D fd.cc (zDg fd.D args 0) H n)
def ren (s:Nat->Nat) (x:AV):AV:=
 AV.rec (motive_1:=fun _=>AV) (motive_2:=fun _=>List AV) (fun k n=>.i k n) (fun t=>.b t) (fun v=>.v v) (fun n=>.lim n) (fun _ l ih=>.fsl ih l) (fun _ ih=>.fpt ih)
  (fun id off len k cap=>.sl (s id) off len k cap) (fun id off=>.ptr (s id) off) (fun id=>.map (s id)) (fun _ ih=>.agg ih) (fun _ ih=>.tup ih) (fun f _ ih=>.fn f ih) .any
  [] (fun _ _ ih1 ih2=>ih1::ih2) x
def zEK (k:Nat) (x:AV):Bool:=
 AV.rec (motive_1:=fun _=>Bool) (motive_2:=fun _=>Bool) (fun _ _=>true) (fun _=>true) (fun _=>true) (fun _=>true) (fun _ _ ih=>ih) (fun _ ih=>ih)
  (fun id _ _ _ _=>Nat.ble (Nat.succ id) k) (fun id _=>Nat.ble (Nat.succ id) k) (fun id=>Nat.ble (Nat.succ id) k) (fun _ ih=>ih) (fun _ ih=>ih) (fun _ _ ih=>ih) true
  true (fun _ _ ih1 ih2=>Bool.and ih1 ih2) x
def ziq (x:AV):Option Nat:=match x with
 | .sl id _ _ _ _=>some id
 | .ptr id _=>some id
 | .map id=>some id
 | _=>none
def zcW (l:List AV):List AV:=List.rec [] (fun a _ ih=>match a with | .agg cs=>app cs ih | a=>a::ih) l
def zin (fa:List AV) (H:Hp) (s:List Nat) (p:Option Nat×Nat):Option Nat:=
 zA6 (Option.rec (nth fa p.2) (fun j=>zA6 (nth s j) fun id=>zA6 (hget H id) fun b=>match b with | .cells cs=>nth cs p.2 | _=>none) p.1) ziq
def zio (fa:List AV) (H:Hp) (ps:List (Option Nat×Nat)):List Nat->Option (List Nat):=
 List.rec (motive:=fun _=>List Nat->Option (List Nat)) (fun s=>some s) (fun p _ ih s=>zA6 (zin fa H s p) fun id=>ih (app s [id])) ps
def sg (s:List Nat) (n k i:Nat):Nat:=Bool.rec (Nat.add n (Nat.sub i k)) (Option.rec 0 (fun j=>j) (nth s i)) (Nat.ble (Nat.succ i) k)
def zM4 (s:Nat->Nat) (b:HB):HB:=match b with
 | .cells cs=>.cells (zE7 (ren s) cs)
 | .map es=>.map (zE7 (fun p=>(ren s p.1,ren s p.2)) es)
def zQm (s:Nat->Nat) (H:Hp):Hp:=zE7 (fun p=>(s p.1,zM4 s p.2)) H
def zR5 (s:Nat->Nat) (H2:Hp) (H:Hp):Bool:=List.rec true (fun p _ ih=>Bool.and (Option.rec false (fun b=>zO4 (zM4 s p.2) b) (hget H2 (s p.1))) ih) H
def zOb (l:List Nat):Bool:=List.rec true (fun a l ih=>Bool.and (List.rec true (fun b _ ih=>Bool.and (Bool.not (Nat.beq a b)) ih) l) ih) l
def zFe (e:ME) (args:List AV) (H:Hp) (n:Nat) (s:List Nat):Bool:=
 Bool.and (Nat.beq (zJK s) e.k) (Bool.and (zOb s) (Bool.and (zKK (.agg (zE7 (ren (sg s n e.k)) e.args)) (.agg args)) (zR5 (sg s n e.k) H e.H)))
def zTW (e:ME) (args:List AV) (H:Hp) (n:Nat):Option RV:=zA6 (zio (zcW args) H e.paths []) fun s=>
 Bool.rec none (some (.ok (ren (sg s n e.k) e.v) (app (zQm (sg s n e.k) e.new) H) (Nat.add n (Nat.sub e.n' e.k)))) (zFe e args H n s)
def zHv (args:List AV) (H:Hp) (n:Nat) (l:List ME):Option RV:=List.rec none (fun e _ ih=>Option.rec ih (fun r=>some r) (zTW e args H n)) l
def zJz (B:Big) (f:Nat) (args:List AV) (H:Hp) (n:Nat):Option RV:=
 List.rec none (fun p _ ih=>Bool.rec ih (zHv args H n p.2) (Nat.beq p.1 f)) B.memo
def zSk (B:Big) (f:Nat) (args:List AV) (H:Hp):Option AV:=zA6 (PT.get none B.nat f) fun nf=>nf H args
def zEI (B:Big) (ev:Ev B.E):zAr:=fun f args H n=>
 Option.rec (Option.rec (Option.rec .fail (fun fd=>enter B ev fd args H n) (PT.get none B.fn f)) (fun v=>.ok v H n) (zSk B f args H)) (fun r=>r) (zJz B f args H n)
def zMm {E:Env}{D:Nat}(ev:CC E D->Tm->Hp->Nat->Res) (a b:CC E D) (T:Tm) (H:Hp) (n:Nat):Res:=
 Res.rec .fail (fun x T H n=>Ex.rec (ev b T H n) (.ok .ret T H n) (fun i=>.ok (.exit i) T H n) x) (ev a T H n)
def zFV {E:Env}{D:Nat}(ev:CC E D->Tm->Hp->Nat->Res) (c:Operand) (a b:CC E D) (T:Tm) (H:Hp) (n:Nat):Res:=match zAf T c with
 | .b t=>Bool.rec (ev b T H n) (ev a T H n) t
 | _=>.fail
def zC4 {E:Env}{D:Nat}(ev:CC E D->Tm->Hp->Nat->Res) (id:Nat) (b:CC E D) (T:Tm) (H:Hp) (n:Nat):Res:=
 Res.rec .fail (fun x T H n=>Ex.rec (.ok .nrm T H n) (.ok .ret T H n) (fun i=>Bool.rec (.ok (.exit i) T H n) (.ok .nrm T H n) (Nat.beq i id)) x) (ev b T H n)
def zFW {E:Env}{D:Nat}(ev:CC E D->Tm->Hp->Nat->Res) (b:CC E D) (T:Tm) (H:Hp) (n:Nat):Res:=
 Res.rec .fail (fun x T H n=>Ex.rec (ev (.loop b) T H n) (.ok .ret T H n) (fun i=>.ok (.exit i) T H n) x) (ev b T H n)
def evF (B:Big) (ev:Ev B.E):Ev B.E:=fun D c=>
 CC.rec (motive:=fun _=>Tm->Hp->Nat->Res) (Res.ok .nrm) (Res.ok .ret) (fun i=>Res.ok (.exit i)) (fun _=>Res.ok .nrm)
  (fun a b _ _=>zMm (ev D) a b) (fun c a b _ _=>zFV (ev D) c a b) (fun id b _=>zC4 (ev D) id b) (fun b _=>zFW (ev D) b) (fun b _=>ev D b)
  (fun _ _ _ r _=>r (zEI B ev)) (fun _ _ _ _=>.fail) c
def ev (B:Big) (fuel:Nat):Ev B.E:=
 Nat.rec (motive:=fun _=>Ev B.E) (fun _ _ _ _ _=>.fail) (fun _ ih=>evF B ih) fuel
abbrev cI (n:Nat):AV:=.i .i64 (.ofNat n)
abbrev cJ (n:Nat):AV:=.i .i64 (.negSucc n)
abbrev cF:AV:=.b false
abbrev cT:AV:=.b true
abbrev zFv (v:Value):Bool:=v.oneCell'
abbrev Io:=Nat->Option (Nat×Nat)
def zA1 (w:World) (b o:Nat) (vs:List Value):Prop:=∀ (j:Nat) v,vs[j]? = some v->w.cell? ⟨b,o+j,none⟩=some v
mutual
inductive Rel (ι:Io) (fz:Nat->Prop) (w:World):AV->Value->Prop
 | i (k:IntKind) (n:Int):Rel ι fz w (.i k n) (.int k n)
 | b (t:Bool):Rel ι fz w (.b t) (.bool t)
 | v (x:Value):Rel ι fz w (.v x) x
 | any (x:Value):Rel ι fz w .any x
 | lim (n:Nat) (A:Option Addr) (len c:Nat) (h:SL w A len c (zAa n)) (hf:∀ad,A=some ad->0<len->fz ad.block):Rel ι fz w (.lim n) (.slice A len c)
 | fsl (cs:List AV) (vs:List Value) (len b o c:Nat) (hf:fz b) (hc:zA1 w b o vs) (hl:len<=c) (h:zA5 ι fz w true cs vs):Rel ι fz w (.fsl cs len) (.slice (some ⟨b,o,none⟩) len c)
 | fpt (cs:List AV) (vs:List Value) (b o:Nat) (hf:fz b) (hc:zA1 w b o vs) (h:zA5 ι fz w true cs vs):Rel ι fz w (.fpt cs) (.pointer (some ⟨b,o,none⟩))
 | sl (id off len k:Nat) (cap:Option Nat) (b s c:Nat) (hi:ι id=some (b,s)) (hs:off+c*k<=s) (hl:len<=c) (hc:∀m,cap=some m->m=c):Rel ι fz w (.sl id off len k cap) (.slice (some ⟨b,off,none⟩) len c)
 | ptr (id off b s:Nat) (hi:ι id=some (b,s)):Rel ι fz w (.ptr id off) (.pointer (some ⟨b,off,none⟩))
 | map (id b s:Nat) (hi:ι id=some (b,s)):Rel ι fz w (.map id) (.map (some b))
 | agg (cs:List AV) (vs:List Value) (h:zA5 ι fz w true cs vs):Rel ι fz w (.agg cs) (.agg vs.toArray)
 | tup (cs:List AV) (vs:List Value) (h:zA5 ι fz w false cs vs):Rel ι fz w (.tup cs) (.tuple vs.toArray)
 | fn (f:FuncId) (cs:List AV) (vs:List Value) (h:zA5 ι fz w false cs vs):Rel ι fz w (.fn f cs) (.func (.func f) #[] vs.toArray)
inductive zA5 (ι:Io) (fz:Nat->Prop) (w:World):Bool->List AV->List Value->Prop
 | nil (c:Bool):zA5 ι fz w c [] []
 | cons (c:Bool) (x:AV) (v:Value) (xs:List AV) (vs:List Value) (h:Rel ι fz w x v) (hc:c=true->zFv v=true) (hs:zA5 ι fz w c xs vs):zA5 ι fz w c (x::xs) (v::vs)
end
theorem zFr {w w':World}{b o:Nat}{vs:List Value}(h:zA1 w b o vs) (hw:w'.heap[b]? = w.heap[b]?):zA1 w' b o vs:=by
 intro j v hv;rw [<- h j v hv];simp only [World.cell?,hw]
theorem zTP {w w':World}{A:Option Addr}{n c:Nat}{l:List Nat}(h:SL w A n c l) (hw:∀ad,A=some ad->0<n->w'.heap[ad.block]? = w.heap[ad.block]?):SL w' A n c l:=
 ⟨h.len,h.cap,h.max,h.lt,fun hn=>by
  obtain ⟨b,off,e,hb,hc⟩:=h.at_ hn;have hh:=hw _ e hn;refine ⟨b,off,e,?_,fun j x hj=>?_⟩
  ·have h1:w.heap[b]? = some w.heap[b]:=Array.getElem?_eq_getElem hb
   simp only at hh;rw [h1] at hh;exact (Yv.1 hh).1
  ·rw [<- hc j x hj]
   simp only [World.cell?];simp only at hh;rw [hh]⟩
mutual
theorem Rel.mono {ι ι':Io}{fz fz':Nat->Prop}{w w':World}(hι:∀i p,ι i=some p->ι' i=some p) (hf:∀b,fz b->fz' b) (hw:∀b,fz b->w'.heap[b]? = w.heap[b]?) :
  ∀ {x:AV}{v:Value},Rel ι fz w x v->Rel ι' fz' w' x v
 | _,_,.i k n=>.i k n
 | _,_,.b t=>.b t
 | _,_,.v x=>.v x
 | _,_,.any x=>.any x
 | _,_,.lim n A len c h hfz=>.lim n A len c (zTP h fun ad e hl=>hw _ (hfz ad e hl)) fun ad e hl=>hf _ (hfz ad e hl)
 | _,_,.fsl cs vs len b o c hfz hc hl h=>.fsl cs vs len b o c (hf _ hfz) (zFr hc (hw _ hfz)) hl (zA5.mono hι hf hw h)
 | _,_,.fpt cs vs b o hfz hc h=>.fpt cs vs b o (hf _ hfz) (zFr hc (hw _ hfz)) (zA5.mono hι hf hw h)
 | _,_,.sl id off len k cap b s c hi hs hl hc=>.sl id off len k cap b s c (hι _ _ hi) hs hl hc
 | _,_,.ptr id off b s hi=>.ptr id off b s (hι _ _ hi)
 | _,_,.map id b s hi=>.map id b s (hι _ _ hi)
 | _,_,.agg cs vs h=>.agg cs vs (zA5.mono hι hf hw h)
 | _,_,.tup cs vs h=>.tup cs vs (zA5.mono hι hf hw h)
 | _,_,.fn f cs vs h=>.fn f cs vs (zA5.mono hι hf hw h)
theorem zA5.mono {ι ι':Io}{fz fz':Nat->Prop}{w w':World}(hι:∀i p,ι i=some p->ι' i=some p) (hf:∀b,fz b->fz' b) (hw:∀b,fz b->w'.heap[b]? = w.heap[b]?) :
  ∀ {c:Bool}{xs:List AV}{vs:List Value},zA5 ι fz w c xs vs->zA5 ι' fz' w' c xs vs
 | _,_,_,.nil c=>.nil c
 | _,_,_,.cons c x v xs vs h hc hs=>.cons c x v xs vs (Rel.mono hι hf hw h) hc (zA5.mono hι hf hw hs)
end
section
variable {ι:Io}{fz:Nat->Prop}{w:World}
theorem zA5.len {c:Bool}:∀ {xs:List AV}{vs:List Value},zA5 ι fz w c xs vs->xs.length=vs.length
 | _,_,.nil _=>rfl
 | _,_,.cons _ _ _ _ _ _ _ hs=>by simp [hs.len]
theorem zA5.get {c:Bool}:∀ {xs:List AV}{vs:List Value},zA5 ι fz w c xs vs->∀ {j:Nat}{x:AV},xs[j]? = some x->∃v,vs[j]? = some v/\Rel ι fz w x v/\(c=true->zFv v=true)
 | _,_,.nil _,j,x,h=>by simp at h
 | _,_,.cons _ _ v _ _ h hc hs,0,x,e=>by simp at e;subst e;exact ⟨v,by simp,h,hc⟩
 | _,_,.cons _ _ v _ _ h hc hs,j+1,x,e=>by
  obtain ⟨u,h1,h2⟩:=hs.get (j:=j) (x:=x) (by simpa using e);exact ⟨u,by simpa using h1,h2⟩
theorem zA5.append {c:Bool}:∀ {xs:List AV}{vs:List Value},zA5 ι fz w c xs vs->∀ {ys:List AV}{us:List Value},zA5 ι fz w c ys us->zA5 ι fz w c (xs++ys) (vs++us)
 | _,_,.nil _,_,_,h=>h
 | _,_,.cons c x v xs vs h hc hs,_,_,h'=>.cons c x v _ _ h hc (hs.append h')
theorem zA5.drop {c:Bool}:∀ {xs:List AV}{vs:List Value},zA5 ι fz w c xs vs->∀ (n:Nat),zA5 ι fz w c (xs.drop n) (vs.drop n)
 | _,_,h,0=>h
 | _,_,.nil c,n+1=>.nil c
 | _,_,.cons c x v xs vs h hc hs,n+1=>by simpa using hs.drop n
theorem zA5.take {c:Bool}:∀ {xs:List AV}{vs:List Value},zA5 ι fz w c xs vs->∀ (n:Nat),zA5 ι fz w c (xs.take n) (vs.take n)
 | _,_,_,0=>by simpa using zA5.nil c
 | _,_,.nil c,n+1=>by simpa using zA5.nil c
 | _,_,.cons c x v xs vs h hc hs,n+1=>by simpa using zA5.cons c x v _ _ h hc (hs.take n)
theorem zA5.cells {c:Bool}:∀ {xs:List AV}{vs:List Value},zA5 ι fz w c xs vs->c=true->∀v∈vs,zFv v=true
 | _,_,.nil _,_,v,hv=>by cases hv
 | _,_,.cons _ x u xs vs h hc hs,e,v,hv=>by
  cases hv with
  | head=>exact hc e
  | tail _ hv=>exact hs.cells e v hv
theorem zA5.single {c:Bool}{x:AV}{v:Value}(h:Rel ι fz w x v) (hc:c=true->zFv v=true):zA5 ι fz w c [x] [v]:=.cons c x v [] [] h hc (.nil c)
end
theorem zBY {w:World}{b o:Nat}{vs:List Value}(h:zA1 w b o vs) (n:Nat):zA1 w b (o+n) (vs.drop n):=by
 intro j v hv;rw [List.getElem?_drop] at hv;rw [Nat.add_assoc];exact h _ v hv
structure Gl where
 B:Nat->Prop
 p:World->Prop
 keep:∀w w',p w->(∀b,B b->w'.heap[b]? = w.heap[b]?)->p w'
inductive zJN (ι:Io) (fz:Nat->Prop) (w:World):List (AV×AV)->List MapEntry->Prop
 | nil:zJN ι fz w [] []
 | cons (p:AV×AV) (e:MapEntry) (ps:List (AV×AV)) (es:List MapEntry) (hk:Rel ι fz w p.1 e.key) (hv:Rel ι fz w p.2 e.val) (h:zJN ι fz w ps es):zJN ι fz w (p::ps) (e::es)
theorem zJN.mono {ι ι':Io}{fz fz':Nat->Prop}{w w':World}(hι:∀i p,ι i=some p->ι' i=some p) (hf:∀b,fz b->fz' b) (hw:∀b,fz b->w'.heap[b]? = w.heap[b]?) {ps:List (AV×AV)}{es:List MapEntry}
  (h:zJN ι fz w ps es):zJN ι' fz' w' ps es:=by
 induction h with
 | nil=>exact .nil
 | cons p e ps es hk hv _ ih=>exact .cons p e ps es (hk.mono hι hf hw) (hv.mono hι hf hw) ih
def zJH (ι:Io) (fz:Nat->Prop) (w:World) (b s:Nat):HB->Prop
 | .cells cs=>∃vs rest t,w.heap[b]? = some (.cells (vs++rest).toArray t (0,0))/\zA5 ι fz w true cs vs/\(vs++rest).length=s
 | .map es=>∃ms clock,w.heap[b]? = some (.map ms.toArray clock)/\zJN ι fz w es ms
theorem zJH.mono {ι ι':Io}{fz fz':Nat->Prop}{w w':World}(hι:∀i p,ι i=some p->ι' i=some p) (hf:∀b,fz b->fz' b) (hw:∀b,fz b->w'.heap[b]? = w.heap[b]?) {b s:Nat}{hb:HB}
  (h:zJH ι fz w b s hb) (he:w'.heap[b]? = w.heap[b]?):zJH ι' fz' w' b s hb:=by
 cases hb with
 | cells cs=>
  obtain ⟨vs,rest,t,h1,h2,h3⟩:=h;exact ⟨vs,rest,t,he.trans h1,h2.mono hι hf hw,h3⟩
 | map es=>
  obtain ⟨ms,clock,h1,h2⟩:=h;exact ⟨ms,clock,he.trans h1,h2.mono hι hf hw⟩
theorem zJH.lt {ι:Io}{fz:Nat->Prop}{w:World}{b s:Nat}{hb:HB}(h:zJH ι fz w b s hb):b<w.heap.size:=by
 cases hb with
 | cells cs=>obtain ⟨vs,rest,t,h1,_⟩:=h;exact (Yv.1 h1).1
 | map es=>obtain ⟨ms,clock,h1,_⟩:=h;exact (Yv.1 h1).1
structure Inv (G:Gl) (ι:Io) (fz:Nat->Prop) (M:Nat->Option HB) (w:World):Prop where
 blk:∀id hb,M id=some hb->∃b s,ι id=some (b,s)/\¬ fz b/\zJH ι fz w b s hb
 inj:∀i j hi hj b s s',M i=some hi->M j=some hj->ι i=some (b,s)->ι j=some (b,s')->i=j
 fzlt:∀b,fz b->b<w.heap.size
 gb:∀b,G.B b->fz b
 gp:G.p w
theorem Inv.sub {G:Gl}{ι:Io}{fz:Nat->Prop}{M M':Nat->Option HB}{w:World}(h:Inv G ι fz M w) (hs:∀id hb,M' id=some hb->M id=some hb):Inv G ι fz M' w:=
 ⟨fun id hb e=>h.blk id hb (hs _ _ e),fun i j hi hj b s s' e1 e2=>h.inj i j hi hj b s s' (hs _ _ e1) (hs _ _ e2),h.fzlt,h.gb,h.gp⟩
def Trk (M:Nat->Option HB) (ι:Io) (b:Nat):Prop:=∃id hb s,M id=some hb/\ι id=some (b,s)
structure zB1 (G:Gl) (ι:Io) (fz:Nat->Prop) (M:Nat->Option HB) (n:Nat) (w:World) (ι':Io) (fz':Nat->Prop) (M':Nat->Option HB) (n':Nat) (w':World):Prop where
 ext:∀i p,ι i=some p->ι' i=some p
 out:∀i,(i<n\/n' <= i)->ι' i=ι i
 fzm:∀b,fz b->fz' b
 fzn:∀b,fz' b->fz b\/w.heap.size<=b
 size:w.heap.size<=w'.heap.size
 keep:∀b,b<w.heap.size->¬ Trk M ι b->w'.heap[b]? = w.heap[b]?
 os:w'.os=w.os
 tape:w'.tape=w.tape
 output:w'.output=w.output
 trk:∀b,Trk M' ι' b->Trk M ι b\/w.heap.size<=b
 inv:Inv G ι' fz' M' w'
section
variable {G:Gl}{ι ι1 ι2:Io}{fz fz1 fz2:Nat->Prop}{M M1 M2:Nat->Option HB}{n n1 n2:Nat}{w w1 w2:World}
theorem Inv.not_trk (h:Inv G ι fz M w) {b:Nat}(hb:fz b):¬ Trk M ι b:=by
 rintro ⟨id,hb',s,e,hi⟩
 obtain ⟨b',s',hi',hn,_⟩:=h.blk id hb' e;rw [hi] at hi';injection hi' with e'
 injection e' with e1 e2
 subst e1;exact hn hb
theorem zB1.fz_same (hI:Inv G ι fz M w) (h:zB1 G ι fz M n w ι1 fz1 M1 n1 w1) (b:Nat) (hb:fz b):w1.heap[b]? = w.heap[b]?:=h.keep b (hI.fzlt b hb) (hI.not_trk hb)
theorem zB1.rel (hI:Inv G ι fz M w) (h:zB1 G ι fz M n w ι1 fz1 M1 n1 w1) {x:AV}{v:Value}(hr:Rel ι fz w x v):Rel ι1 fz1 w1 x v:=hr.mono h.ext h.fzm (h.fz_same hI)
theorem zB1.refl (hI:Inv G ι fz M w) (n:Nat):zB1 G ι fz M n w ι fz M n w:=
 ⟨fun _ _ h=>h,fun _ _=>rfl,fun _ h=>h,fun _ h=>.inl h,Ya _,fun _ _ _=>rfl,rfl,rfl,rfl,fun _ h=>.inl h,hI⟩
theorem zB1.trans (h:zB1 G ι fz M n w ι1 fz1 M1 n1 w1) (h':zB1 G ι1 fz1 M1 n1 w1 ι2 fz2 M2 n2 w2) (hn:n<=n1) (hn':n1<=n2):zB1 G ι fz M n w ι2 fz2 M2 n2 w2 where
 ext i p e:=h'.ext i p (h.ext i p e)
 out i hi:=by
  rw [h'.out i (by omega),h.out i (by omega)]
 fzm b hb:=h'.fzm b (h.fzm b hb)
 fzn b hb:=by
  rcases h'.fzn b hb with h1 | h1
  ·exact h.fzn b h1
  ·exact .inr (Yq h.size h1)
 size:=Yq h.size h'.size
 keep b hb hn:=by
  rw [h'.keep b (by have:=h.size;omega) (fun ht=>by
   rcases h.trk b ht with h1 | h1
   ·exact hn h1
   ·omega),h.keep b hb hn]
 os:=h'.os.trans h.os
 tape:=h'.tape.trans h.tape
 output:=h'.output.trans h.output
 trk b hb:=by
  rcases h'.trk b hb with h1 | h1
  ·exact h.trk b h1
  ·exact .inr (Yq h.size h1)
 inv:=h'.inv
theorem zB1.sub (h:zB1 G ι fz M n w ι1 fz1 M1 n1 w1) (hs:∀id hb,M2 id=some hb->M1 id=some hb):zB1 G ι fz M n w ι1 fz1 M2 n1 w1:=
 ⟨h.ext,h.out,h.fzm,h.fzn,h.size,h.keep,h.os,h.tape,h.output,fun b ⟨id,hb,s,e,hi⟩=>h.trk b ⟨id,hb,s,hs _ _ e,hi⟩,h.inv.sub hs⟩
theorem zB1.up (hI:Inv G ι fz M w) (hs:∀id hb,M1 id=some hb->M id=some hb) (h:zB1 G ι fz M1 n w ι1 fz1 M2 n1 w1)
  (hfresh:∀i,n<=i->i<n1->ι i=none) :
  zB1 G ι fz M n w ι1 fz1 (fun id=>match M2 id with | some hb=>some hb | none=>if M1 id=none then M id else none) n1 w1:=by
 have hfz:∀b,fz b->w1.heap[b]? = w.heap[b]?:=fun b hb=>h.keep b (hI.fzlt b hb) (fun ⟨id,hb',s,e,hi⟩=>hI.not_trk hb ⟨id,hb',s,hs _ _ e,hi⟩)
 have old:∀id hb,M id=some hb->M1 id=none->∃b s,ι id=some (b,s)/\¬ Trk M1 ι b/\b<w.heap.size/\¬ fz b/\zJH ι fz w b s hb:=by
  intro id hb e e1;obtain ⟨b,s,hi,hn,hk⟩:=hI.blk id hb e;refine ⟨b,s,hi,?_,hk.lt,hn,hk⟩;rintro ⟨j,hj,s',ej,hij⟩
  have:=hI.inj id j hb hj b s s' e (hs _ _ ej) hi hij;subst this;rw [e1] at ej;cases ej
 refine ⟨h.ext,h.out,h.fzm,h.fzn,h.size,fun b hb hn=>h.keep b hb (fun ⟨id,hb',s,e,hi⟩=>hn ⟨id,hb',s,hs _ _ e,hi⟩),h.os,h.tape,h.output,?_,?_⟩
 ·rintro b ⟨id,hb,s,e,hi⟩
  simp only at e
  split at e
  ·rename_i hb2 e2
   rcases h.trk b ⟨id,hb2,s,e2,hi⟩ with ⟨j,hj,s',ej,hij⟩ | h1
   ·exact .inl ⟨j,hj,s',hs _ _ ej,hij⟩
   ·exact .inr h1
  ·split at e
   ·rename_i e1
    obtain ⟨b',s',hi',_,_,_,_⟩:=old id hb e e1;have h2:=h.ext _ _ hi';rw [hi] at h2;injection h2 with h2
    injection h2 with h2 h3
    subst h2;exact .inl ⟨id,hb,s',e,hi'⟩
   ·cases e
 ·refine ⟨fun id hb e=>?_,fun i j hi hj b s s' e1 e2 e3 e4=>?_,h.inv.fzlt,h.inv.gb,h.inv.gp⟩
  ·try simp only at e
   split at e
   ·rename_i hb2 e2
    injection e with e
    subst e;exact h.inv.blk id hb2 e2
   ·split at e
    ·rename_i e1
     obtain ⟨b,s,hi,ht,hlt,hn,hk⟩:=old id hb e e1;refine ⟨b,s,h.ext _ _ hi,fun hf=>?_,hk.mono h.ext h.fzm hfz (h.keep b hlt ht)⟩;rcases h.fzn b hf with h1 | h1
     ·exact hn h1
     ·omega
    ·cases e
  ·
   have cls:∀i hi b s,(match M2 i with | some hb=>some hb | none=>if M1 i=none then M i else none)=some hi->ι1 i=some (b,s)->
     (∃h2,M2 i=some h2)\/(∃s',M2 i=none/\M1 i=none/\M i=some hi/\ι i=some (b,s')/\¬ Trk M1 ι b/\b<w.heap.size):=by
    intro i hi b s e e3
    split at e
    ·rename_i hb2 e2;exact .inl ⟨hb2,e2⟩
    ·rename_i e2
     split at e
     ·rename_i e1
      obtain ⟨b',s',hi',ht,hlt,_,_⟩:=old i hi e e1;have h2:=h.ext _ _ hi';rw [e3] at h2;injection h2 with h2
      injection h2 with h2 h3
      subst h2;exact .inr ⟨s',e2,e1,e,hi',ht,hlt⟩
     ·cases e
   rcases cls i hi b s e1 e3 with ⟨a,ea⟩ | ⟨t,ea0,ea,eb,ec,ed,el⟩
   ·rcases cls j hj b s' e2 e4 with ⟨a',ea'⟩ | ⟨t',ea0',ea',eb',ec',ed',el'⟩
    ·exact h.inv.inj i j a a' b s s' ea ea' e3 e4
    ·rcases h.trk b ⟨i,a,s,ea,e3⟩ with h1 | h1
     ·exact absurd h1 ed'
     ·omega
   ·rcases cls j hj b s' e2 e4 with ⟨a',ea'⟩ | ⟨t',ea0',ea',eb',ec',ed',el'⟩
    ·rcases h.trk b ⟨j,a',s',ea',e4⟩ with h1 | h1
     ·exact absurd h1 ed
     ·omega
    ·exact hI.inj i j hi hj b t t' eb eb' ec ec'
end
end Go.Proofs.YtchkfjgcbbbffaaGreatDoor
end
