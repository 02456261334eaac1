/- Bundle 7: what the law's walk stands on: D3c, D3d, D4, D5, Kit, Kit2, E4, M6, E5, E6. -/
import Derived.Test.YtngjhigieajkmaaGreatDoorCards
import Derived.ProofKit
import Derived.OpenShut
import Derived.Deep.DeepHandedRow
import Derived.Lib.LaidTab
import Derived.Lib.SmallJoins
import Derived.KernelRfl
import Derived.Lib.Builder
import Derived.Lib.AppendStr
import Derived.Lib.UnsafeStr
import Derived.Laws.Externs
import Derived.Test.YtngjhigieajkmaaGreatDoorH4
import Derived.Test.YtngjhigieajkmaaGreatDoorH5
import Derived.Test.YtngjhigieajkmaaGreatDoorH6
set_option maxRecDepth 100000
set_option maxHeartbeats 20000000
set_option linter.all false
noncomputable section
namespace Go.Proofs.YtngjhigieajkmaaGreatDoor
open Go.RowKit Pl Go.Shelf
theorem zQy (neg neg':Bool) (A B:Option Addr) (n c m d:Nat) (l l':List Nat) (x x' mn:Int) (w:World) (h:SL w A n c l) (h':SL w B m d l') (ht:zBx w)
  (hv:vld ⟨neg,l,x⟩=true) (hv':vld ⟨neg',l',x'⟩=true) (hne:n≠0) (hne':m≠0) (hmn:min x x' = mn) (he:4097<max ((zAT (val l):Int)+x) ((zAT (val l'):Int)+x') - mn) (he1:¬ 1<((zAT (val l):Int)+x) - ((zAT (val l'):Int)+x')) (he2:¬ 1<((zAT (val l'):Int)+x') - ((zAT (val l):Int)+x)) (hsg:¬ neg=neg') (hpq:¬ (val l*2^(x - mn).toNat<val l' * 2^(x' - mn).toNat)) :
  Calls Tryz.prog 177 #[.agg #[.bool neg,.slice A n c,.int .i64 x],.agg #[.bool neg',.slice B m d,.int .i64 x']] w (zJI (zDB neg neg' (val l*2^(x - mn).toNat) (val l' * 2^(x' - mn).toNat) mn).1 (zDB neg neg' (val l*2^(x - mn).toNat) (val l' * 2^(x' - mn).toNat) mn).2 w):=by
 have HSG:=Zh hsg;clear hsg;obtain ⟨b1,b2,b3,b4,b5,b6,b7⟩:=zAU hv ((zAL h).2 hne);obtain ⟨b1',b2',b3',b4',b5',b6',b7'⟩:=zAU hv' ((zAL h').2 hne');have hn256:n<=256:=by rw [<- h.len];exact b1
 have hm256:m<=256:=by rw [<- h'.len];exact b1'
 have B2:=Zh b2;have B2':=Zh b2';have B3:=Zh b3;have B3':=Zh b3';have TT:Hid (zCU ⟨neg,l,x⟩=(zAT (val l):Int)+x):=by unfold Hid zCU;rw [if_pos ⟨hv,(zAL h).2 hne⟩]
 have TT':Hid (zCU ⟨neg',l',x'⟩=(zAT (val l'):Int)+x'):=by unfold Hid zCU;rw [if_pos ⟨hv',(zAL h').2 hne'⟩]
 have n0:((n:Int) == 0)=false:=by simp;omega
 have m0:((m:Int) == 0)=false:=by simp;omega
 have hm1:mn<=x:=by omega
 have hm2:mn<=x':=by omega
 have hm3:mn=x\/mn=x':=by omega
 simp only at b4 b5 b6 b7 b4' b5' b6' b7';have hm4:-16384<=mn:=by omega
 have HM3:=Zh hm3;have HMN:=Zh hmn;have HV:=Zh hv;have HV':=Zh hv';clear b1 b1' b2 b2' b3 b3' hmn hv hv' hm3;go_enter Tryz.func177,Tryz.ntmps177
 go_wp2_with fail
 rw [HMN.out];obtain ⟨k1,k2,k3,k4,k5⟩:=zNO w 30 #[.bool neg,.slice A n c,.int .i64 x] #[.bool neg',.slice B m d,.int .i64 x'] #[.bool false,.slice none 0 0,.int .i64 0];have h1:=h.below k5;have h1':=h'.below k5;have HT:=Zh (ht.next k5);have HG0:=Zh ht.lt;clear ht;generalize ((w.alloc (.cells #[.bool neg,.slice A n c,.int .i64 x] 30)).alloc (.cells #[.bool neg',.slice B m d,.int .i64 x'] 30)).alloc (.cells #[.bool false,.slice none 0 0,.int .i64 0] 30)=W0 at *;obtain ⟨s0,s1,s2⟩:=k1.cells3;obtain ⟨t0,t1,t2⟩:=k2.cells3;have hz:w.heap.size+3<=W0.heap.size:=by omega
 clear k4
 go_region_held3 (fun W=>W.cell? ⟨w.heap.size,0,none⟩=some (.bool neg)/\W.cell? ⟨w.heap.size,1,none⟩=some (.slice A n c)/\W.cell? ⟨w.heap.size,2,none⟩=some (.int .i64 x)/\W.cell? ⟨w.heap.size+1,0,none⟩=some (.bool neg')/\W.cell? ⟨w.heap.size+1,1,none⟩=some (.slice B m d)/\W.cell? ⟨w.heap.size+1,2,none⟩=some (.int .i64 x'))
  (first | exact ⟨s0,s1,s2,t0,t1,t2⟩ | exact zCn hbA (by simp;omega) (by simp;omega) ⟨s0,s1,s2,t0,t1,t2⟩ | exact zCn (zAA hbA hbB) (by simp;omega) (by simp;omega) ⟨s0,s1,s2,t0,t1,t2⟩)
  (first
   | (go_at_call 77; (with_reducible refine (zBB neg A n c l x _ h1.drew (by omega)).mono ?_);rintro e wA ⟨rfl,hbA⟩)
   | (go_at_call 77; (with_reducible refine (zBB neg' B m d l' x' _ (h1'.drew.below hbA) (by omega)).mono ?_);rintro e wB ⟨rfl,hbB⟩))
 rw [TT.out,TT'.out];have hbAB:=zAA hbA hbB;have k1B:=k1.drew.below hbAB (by simp;omega);have k2B:=k2.drew.below hbAB (by simp;omega);have k3B:=k3.drew.below hbAB (by simp;omega);have hbw:Below w.heap.size w wB:=zAA (zAR k5 1) hbAB;have h2:=h1.drew.below hbAB;have h2':=h1'.drew.below hbAB;have HTB:=Zh ((show zBx W0.drew from HT.out).next hbAB);have hzB:w.heap.size+3<=wB.heap.size:=by have:=hbAB.size;simp at this;omega
 clear k1 k2 k3 k5 h1 h1' s0 s1 s2 t0 t1 t2 HT hbA hbB hbAB hz TT TT' HV HV';obtain ⟨s0,s1,s2⟩:=k1B.cells3;obtain ⟨t0,t1,t2⟩:=k2B.cells3;obtain ⟨r0,r1,r2⟩:=k3B.cells3;have f0:=k3B.frozen 0;have f1:=k3B.frozen 1;have f2:=k3B.frozen 2;have HN1:Hid (zAT (val l)=zAT (val l)):=rfl;generalize hN1:zAT (val l)=N1 at *;generalize hN2:zAT (val l')=N2 at *;have HBN1:=Zh hN1;have HBN2:=Zh hN2;clear hN1 hN2 HN1;have hmx1:max ((N1:Int)+x) ((N2:Int)+x')<=40000:=by omega
 have hmx2:-40000<=max ((N1:Int)+x) ((N2:Int)+x'):=by omega
 have hd1:decide (4097<max ((N1:Int)+x) ((N2:Int)+x') - mn)=true:=Yf (by omega);have q1e:∃q1:Nat,x - mn=(q1:Int):=⟨(x - mn).toNat,by omega⟩;have q2e:∃q2:Nat,x' - mn=(q2:Int):=⟨(x' - mn).toNat,by omega⟩;obtain ⟨q1,hq1⟩:=q1e;obtain ⟨q2,hq2⟩:=q2e;have hm3:=HM3.out;have hT1:N1+q1<=4097:=by omega
 have hT2:N2+q2<=4097:=by omega
 have hq1b:q1<=65536:=by omega
 have hq2b:q2<=65536:=by omega
 have P1:0<val l:=by have:=B3.out;omega
 have P2:0<val l':=by have:=B3'.out;omega
 have L1:Hid (zAT (val l*2^q1)=N1+q1):=by unfold Hid;rw [zAc _ _ P1,HBN1.out]
 have L2:Hid (zAT (val l' * 2^q2)=N2+q2):=by unfold Hid;rw [zAc _ _ P2,HBN2.out]
 have D1:Hid ((zAa (val l*2^q1)).length<=256):=Yq (zAP _ 129 (by rw [L1.out];omega)) (by omega);have D2:Hid ((zAa (val l' * 2^q2)).length<=256):=Yq (zAP _ 129 (by rw [L2.out];omega)) (by omega);have W1:IntKind.i64.wrap (x - mn)=(q1:Int):=by rw [hq1];exact IntWalk.i64_in _ (by omega)
 have W2:IntKind.i64.wrap (x' - mn)=(q2:Int):=by rw [hq2];exact IntWalk.i64_in _ (by omega)
 have E1:Hid ((x - mn).toNat=q1):=by unfold Hid;omega
 have E2:Hid ((x' - mn).toNat=q2):=by unfold Hid;omega
 clear hm3 hq1 hq2 P1 P2;go_wp2_with fail
 go_region_held3 (fun W=>W.cell? ⟨w.heap.size,1,none⟩=some (.slice A n c)/\W.cell? ⟨w.heap.size,2,none⟩=some (.int .i64 x)/\W.cell? ⟨w.heap.size+1,1,none⟩=some (.slice B m d)/\W.cell? ⟨w.heap.size+1,2,none⟩=some (.int .i64 x'))
  (first | exact ⟨s1,s2,t1,t2⟩ | exact zEf hbC (by simp;omega) (by simp;omega) ⟨s1,s2,t1,t2⟩ | exact zEf (zAA hbC hbD) (by simp;omega) (by simp;omega) ⟨s1,s2,t1,t2⟩)
  (first
   | (go_at_call 79; (with_reducible refine (zAs A n c q1 _ l _ h2.drew hn256 rfl hq1b D1.out).mono ?_);rintro e wC ⟨AC,nC,cC,rfl,hsC,hfC,hbC⟩)
   | (go_at_call 79; (with_reducible refine (zAs B m d q2 _ l' _ (h2'.drew.below hbC) hm256 rfl hq2b D2.out).mono ?_);rintro e wD ⟨AD,nD,cD,rfl,hsD,hfD,hbD⟩))
 have hbCD:=zAA hbC hbD;have k1D:=k1B.drew.below hbCD (by simp;omega);have k2D:=k2B.drew.below hbCD (by simp;omega);have k3D:=k3B.drew.below hbCD (by simp;omega);have hbwD:Below w.heap.size w wD:=zAA (zAR hbw 1) hbCD;have hsC2:=hsC.below hbD;have HTD:=Zh ((show zBx wB.drew from HTB.out).next hbCD);have hzD:w.heap.size+3<=wD.heap.size:=by have:=hbCD.size;simp at this;omega
 have hsz1:=hbC.size;simp at hsz1;have FC:Hid (zAn (w.heap.size+1) AC nC):=hfC.mono (by simp;omega);have FD:Hid (zAn (w.heap.size+1) AD nD):=hfD.mono (by omega);clear hsz1;have hnC:nC<=129:=by rw [<- hsC.len];exact zAP _ 129 (by rw [L1.out];omega)
 have hnD:nD<=129:=by rw [<- hsD.len];exact zAP _ 129 (by rw [L2.out];omega)
 clear k1B k2B k3B h2 h2' HTB hbC hbD hbCD hsC hfC hfD hzB W1 W2 D1 D2 s0 s1 s2 t0 t1 t2 r0 r1 r2 f0 f1 f2 hbw;obtain ⟨s0,s1,s2⟩:=k1D.cells3;obtain ⟨t0,t1,t2⟩:=k2D.cells3;obtain ⟨r0,r1,r2⟩:=k3D.cells3;have f0:=k3D.frozen 0;have f1:=k3D.frozen 1;have f2:=k3D.frozen 2;have hsb:(neg == neg')=false:=by simp [HSG.out]
 have HPQ:=Zh hpq;clear hpq;go_wp2_with fail
 refine (zDN AC AD nC cC nD cD _ _ _ hsC2 hsD).mono ?_;rintro e wX ⟨rfl,qX,rfl⟩
 rw [zAH,zAH];have hcm:¬ zCT (val l*2^q1) (val l' * 2^q2)<0:=by
  unfold zCT;have:=HPQ.out;rw [E1.out,E2.out] at this;rw [if_neg this]
  split <;> omega
 generalize zCT (val l*2^q1) (val l' * 2^q2)=zc at *;have HLE:Hid ((zAa (val l*2^q1 - val l' * 2^q2)).length<=256):=by
  have:=zCR (v:=val l*2^q1 - val l' * 2^q2) (zAk (val l*2^q1)) (by rw [hsC2.len];omega) (by rw [zAH];omega);exact this
 go_wp2_with fail
 refine (zJO AC AD nC cC nD cD _ _ _ (hsC2.drewN qX) (hsD.drewN qX) (by omega) (by omega) (by have:=HPQ.out;rw [E1.out,E2.out] at this;rw [zAH,zAH];omega)).mono ?_;rintro e wE ⟨AE,nE,cE,rfl,hsE,hfE,hbE'⟩
 have hbE:Below wD.heap.size wD wE:=zAA (zAR (Yp _ _) qX) hbE';rw [zAH,zAH] at hsE;have hbwE:=zAA hbwD hbE;have k1E:=k1D.below hbE (by omega);have k3E:=k3D.below hbE (by omega);have HTE:=Zh (HTD.out.next hbE);have hzE:w.heap.size+3<=wE.heap.size:=by have:=hbE.size;omega
 have SV:Hid (zDB neg neg' (val l*2^(x - mn).toNat) (val l' * 2^(x' - mn).toNat) mn=zAu neg (val l*2^q1 - val l' * 2^q2) mn):=by unfold Hid;rw [E1.out,E2.out];have hp:=HPQ.out;rw [E1.out,E2.out] at hp;rw [zDB,if_neg HSG.out,if_neg hp]
 generalize zDB neg neg' (val l*2^(x - mn).toNat) (val l' * 2^(x' - mn).toNat) mn=r at *;generalize val l*2^q1 - val l' * 2^q2=V at *;clear k1D k2D k3D HTD hzD hsC2 hsD hbE s0 s1 s2 t0 t1 t2 r0 r1 r2 f0 f1 f2 hbwD;obtain ⟨s0,s1,s2⟩:=k1E.cells3;obtain ⟨r0,r1,r2⟩:=k3E.cells3;have hnE:nE<=256:=by rw [<- hsE.len];exact HLE.out
 go_wp2_with fail
 refine (zAi neg AE nE cE _ mn _ hsE hnE (by omega) (by omega) HTE.out).mono ?_;rintro e wF ⟨AF,nF,cF,rfl,hsF,hfF,hbF⟩
 rw [zAH] at hsF ⊢;have hnF:nF<=256:=by
  rw [<- hsF.len];unfold zAN
  split
  ·simp [zAZ]
  ·exact zCR (zAk V) HLE.out (by rw [zAH];exact Nat.div_le_self _ _)
 have HD:Hid (zAu neg V mn=if inR (val (zAN neg V mn).l) (zAN neg V mn).e=true then (zAN neg V mn,0) else (zAZ,9)):=rfl;have hrd:r=if inR (val (zAN neg V mn).l) (zAN neg V mn).e=true then (zAN neg V mn,0) else (zAZ,9):=by rw [SV.out,HD.out]
 have HRD:=Zh hrd;clear hrd HD SV;generalize zAN neg V mn=dd at *;by_cases hr:inR (val dd.l) dd.e=true
 ·have hrr:r=(dd,0):=by rw [HRD.out,if_pos hr]
  subst hrr;go_wp2_with fail
  refine (zBf dd.neg AF nF cF dd.l dd.e _ hsF (by omega) hr).mono ?_;rintro e wG ⟨rfl,hbG⟩
  have hbFG:=zAA hbF hbG;have k3G:=k3E.below hbFG (by omega);obtain ⟨v0,v1,v2⟩:=k3G.cells3;have g0:=k3G.frozen 0;have g1:=k3G.frozen 1;have g2:=k3G.frozen 2;have hzG:w.heap.size+3<=wG.heap.size:=by have:=hbFG.size;omega
  clear hr HRD;go_wp2_with fail
  refine Yn (zBI Tryz.results177 rfl (k3G.set3 _ _ _)) rfl ?_;have hsG:=hsF.below hbG;have hlt:w.heap.size+1+1<wE.heap.size:=by omega
  exact ⟨AF,nF,cF,rfl,(((hsG.far hfF hlt 0 _).far hfF hlt 1 _).far hfF hlt 2 _),hfF.mono (by omega),zAG (zAA hbwE hbFG) (by omega) _ _ _⟩
 ·have hrr:r=(zAZ,9):=by rw [HRD.out,if_neg hr]
  subst hrr;go_wp2_with fail
  refine (zBJ dd.neg AF nF cF dd.l dd.e _ hsF (by omega) (by simpa using hr)).mono ?_;rintro e wG ⟨rfl,hbG⟩
  have hbFG:=zAA hbF hbG;have k3G:=k3E.below hbFG (by omega);obtain ⟨v0,v1,v2⟩:=k3G.cells3;have g0:=k3G.frozen 0;have g1:=k3G.frozen 1;have g2:=k3G.frozen 2;have hzG:w.heap.size+3<=wG.heap.size:=by have:=hbFG.size;omega
  clear hr HRD;go_wp2_with fail
  refine Yn (zBI Tryz.results177 rfl (k3G.set3 _ _ _)) rfl ?_;exact ⟨none,0,0,rfl,SL.nil _,zAn.zero,zAG (zAA hbwE hbFG) (by omega) _ _ _⟩
theorem zQz (neg neg':Bool) (A B:Option Addr) (n c m d:Nat) (l l':List Nat) (x x' mn:Int) (w:World) (h:SL w A n c l) (h':SL w B m d l') (ht:zBx w)
  (hv:vld ⟨neg,l,x⟩=true) (hv':vld ⟨neg',l',x'⟩=true) (hne:n≠0) (hne':m≠0) (hmn:min x x' = mn) (he:¬ 4097<max ((zAT (val l):Int)+x) ((zAT (val l'):Int)+x') - mn) (hsg:¬ neg=neg') (hpq:(val l*2^(x - mn).toNat<val l' * 2^(x' - mn).toNat)) :
  Calls Tryz.prog 177 #[.agg #[.bool neg,.slice A n c,.int .i64 x],.agg #[.bool neg',.slice B m d,.int .i64 x']] w (zJI (zDB neg neg' (val l*2^(x - mn).toNat) (val l' * 2^(x' - mn).toNat) mn).1 (zDB neg neg' (val l*2^(x - mn).toNat) (val l' * 2^(x' - mn).toNat) mn).2 w):=by
 have HSG:=Zh hsg;clear hsg;obtain ⟨b1,b2,b3,b4,b5,b6,b7⟩:=zAU hv ((zAL h).2 hne);obtain ⟨b1',b2',b3',b4',b5',b6',b7'⟩:=zAU hv' ((zAL h').2 hne');have hn256:n<=256:=by rw [<- h.len];exact b1
 have hm256:m<=256:=by rw [<- h'.len];exact b1'
 have B2:=Zh b2;have B2':=Zh b2';have B3:=Zh b3;have B3':=Zh b3';have TT:Hid (zCU ⟨neg,l,x⟩=(zAT (val l):Int)+x):=by unfold Hid zCU;rw [if_pos ⟨hv,(zAL h).2 hne⟩]
 have TT':Hid (zCU ⟨neg',l',x'⟩=(zAT (val l'):Int)+x'):=by unfold Hid zCU;rw [if_pos ⟨hv',(zAL h').2 hne'⟩]
 have n0:((n:Int) == 0)=false:=by simp;omega
 have m0:((m:Int) == 0)=false:=by simp;omega
 have hm1:mn<=x:=by omega
 have hm2:mn<=x':=by omega
 have hm3:mn=x\/mn=x':=by omega
 simp only at b4 b5 b6 b7 b4' b5' b6' b7';have hm4:-16384<=mn:=by omega
 have HM3:=Zh hm3;have HMN:=Zh hmn;have HV:=Zh hv;have HV':=Zh hv';clear b1 b1' b2 b2' b3 b3' hmn hv hv' hm3;go_enter Tryz.func177,Tryz.ntmps177
 go_wp2_with fail
 rw [HMN.out];obtain ⟨k1,k2,k3,k4,k5⟩:=zNO w 30 #[.bool neg,.slice A n c,.int .i64 x] #[.bool neg',.slice B m d,.int .i64 x'] #[.bool false,.slice none 0 0,.int .i64 0];have h1:=h.below k5;have h1':=h'.below k5;have HT:=Zh (ht.next k5);have HG0:=Zh ht.lt;clear ht;generalize ((w.alloc (.cells #[.bool neg,.slice A n c,.int .i64 x] 30)).alloc (.cells #[.bool neg',.slice B m d,.int .i64 x'] 30)).alloc (.cells #[.bool false,.slice none 0 0,.int .i64 0] 30)=W0 at *;obtain ⟨s0,s1,s2⟩:=k1.cells3;obtain ⟨t0,t1,t2⟩:=k2.cells3;have hz:w.heap.size+3<=W0.heap.size:=by omega
 clear k4
 go_region_held3 (fun W=>W.cell? ⟨w.heap.size,0,none⟩=some (.bool neg)/\W.cell? ⟨w.heap.size,1,none⟩=some (.slice A n c)/\W.cell? ⟨w.heap.size,2,none⟩=some (.int .i64 x)/\W.cell? ⟨w.heap.size+1,0,none⟩=some (.bool neg')/\W.cell? ⟨w.heap.size+1,1,none⟩=some (.slice B m d)/\W.cell? ⟨w.heap.size+1,2,none⟩=some (.int .i64 x'))
  (first | exact ⟨s0,s1,s2,t0,t1,t2⟩ | exact zCn hbA (by simp;omega) (by simp;omega) ⟨s0,s1,s2,t0,t1,t2⟩ | exact zCn (zAA hbA hbB) (by simp;omega) (by simp;omega) ⟨s0,s1,s2,t0,t1,t2⟩)
  (first
   | (go_at_call 77; (with_reducible refine (zBB neg A n c l x _ h1.drew (by omega)).mono ?_);rintro e wA ⟨rfl,hbA⟩)
   | (go_at_call 77; (with_reducible refine (zBB neg' B m d l' x' _ (h1'.drew.below hbA) (by omega)).mono ?_);rintro e wB ⟨rfl,hbB⟩))
 rw [TT.out,TT'.out];have hbAB:=zAA hbA hbB;have k1B:=k1.drew.below hbAB (by simp;omega);have k2B:=k2.drew.below hbAB (by simp;omega);have k3B:=k3.drew.below hbAB (by simp;omega);have hbw:Below w.heap.size w wB:=zAA (zAR k5 1) hbAB;have h2:=h1.drew.below hbAB;have h2':=h1'.drew.below hbAB;have HTB:=Zh ((show zBx W0.drew from HT.out).next hbAB);have hzB:w.heap.size+3<=wB.heap.size:=by have:=hbAB.size;simp at this;omega
 clear k1 k2 k3 k5 h1 h1' s0 s1 s2 t0 t1 t2 HT hbA hbB hbAB hz TT TT' HV HV';obtain ⟨s0,s1,s2⟩:=k1B.cells3;obtain ⟨t0,t1,t2⟩:=k2B.cells3;obtain ⟨r0,r1,r2⟩:=k3B.cells3;have f0:=k3B.frozen 0;have f1:=k3B.frozen 1;have f2:=k3B.frozen 2;have HN1:Hid (zAT (val l)=zAT (val l)):=rfl;generalize hN1:zAT (val l)=N1 at *;generalize hN2:zAT (val l')=N2 at *;have HBN1:=Zh hN1;have HBN2:=Zh hN2;clear hN1 hN2 HN1;have hmx1:max ((N1:Int)+x) ((N2:Int)+x')<=40000:=by omega
 have hmx2:-40000<=max ((N1:Int)+x) ((N2:Int)+x'):=by omega
 have hd1:decide (4097<max ((N1:Int)+x) ((N2:Int)+x') - mn)=false:=Ye (by omega);have q1e:∃q1:Nat,x - mn=(q1:Int):=⟨(x - mn).toNat,by omega⟩;have q2e:∃q2:Nat,x' - mn=(q2:Int):=⟨(x' - mn).toNat,by omega⟩;obtain ⟨q1,hq1⟩:=q1e;obtain ⟨q2,hq2⟩:=q2e;have hm3:=HM3.out;have hT1:N1+q1<=4097:=by omega
 have hT2:N2+q2<=4097:=by omega
 have hq1b:q1<=65536:=by omega
 have hq2b:q2<=65536:=by omega
 have P1:0<val l:=by have:=B3.out;omega
 have P2:0<val l':=by have:=B3'.out;omega
 have L1:Hid (zAT (val l*2^q1)=N1+q1):=by unfold Hid;rw [zAc _ _ P1,HBN1.out]
 have L2:Hid (zAT (val l' * 2^q2)=N2+q2):=by unfold Hid;rw [zAc _ _ P2,HBN2.out]
 have D1:Hid ((zAa (val l*2^q1)).length<=256):=Yq (zAP _ 129 (by rw [L1.out];omega)) (by omega);have D2:Hid ((zAa (val l' * 2^q2)).length<=256):=Yq (zAP _ 129 (by rw [L2.out];omega)) (by omega);have W1:IntKind.i64.wrap (x - mn)=(q1:Int):=by rw [hq1];exact IntWalk.i64_in _ (by omega)
 have W2:IntKind.i64.wrap (x' - mn)=(q2:Int):=by rw [hq2];exact IntWalk.i64_in _ (by omega)
 have E1:Hid ((x - mn).toNat=q1):=by unfold Hid;omega
 have E2:Hid ((x' - mn).toNat=q2):=by unfold Hid;omega
 clear hm3 hq1 hq2 P1 P2;go_wp2_with fail
 go_region_held3 (fun W=>W.cell? ⟨w.heap.size,1,none⟩=some (.slice A n c)/\W.cell? ⟨w.heap.size,2,none⟩=some (.int .i64 x)/\W.cell? ⟨w.heap.size+1,1,none⟩=some (.slice B m d)/\W.cell? ⟨w.heap.size+1,2,none⟩=some (.int .i64 x'))
  (first | exact ⟨s1,s2,t1,t2⟩ | exact zEf hbC (by simp;omega) (by simp;omega) ⟨s1,s2,t1,t2⟩ | exact zEf (zAA hbC hbD) (by simp;omega) (by simp;omega) ⟨s1,s2,t1,t2⟩)
  (first
   | (go_at_call 79; (with_reducible refine (zAs A n c q1 _ l _ h2.drew hn256 rfl hq1b D1.out).mono ?_);rintro e wC ⟨AC,nC,cC,rfl,hsC,hfC,hbC⟩)
   | (go_at_call 79; (with_reducible refine (zAs B m d q2 _ l' _ (h2'.drew.below hbC) hm256 rfl hq2b D2.out).mono ?_);rintro e wD ⟨AD,nD,cD,rfl,hsD,hfD,hbD⟩))
 have hbCD:=zAA hbC hbD;have k1D:=k1B.drew.below hbCD (by simp;omega);have k2D:=k2B.drew.below hbCD (by simp;omega);have k3D:=k3B.drew.below hbCD (by simp;omega);have hbwD:Below w.heap.size w wD:=zAA (zAR hbw 1) hbCD;have hsC2:=hsC.below hbD;have HTD:=Zh ((show zBx wB.drew from HTB.out).next hbCD);have hzD:w.heap.size+3<=wD.heap.size:=by have:=hbCD.size;simp at this;omega
 have hsz1:=hbC.size;simp at hsz1;have FC:Hid (zAn (w.heap.size+1) AC nC):=hfC.mono (by simp;omega);have FD:Hid (zAn (w.heap.size+1) AD nD):=hfD.mono (by omega);clear hsz1;have hnC:nC<=129:=by rw [<- hsC.len];exact zAP _ 129 (by rw [L1.out];omega)
 have hnD:nD<=129:=by rw [<- hsD.len];exact zAP _ 129 (by rw [L2.out];omega)
 clear k1B k2B k3B h2 h2' HTB hbC hbD hbCD hsC hfC hfD hzB W1 W2 D1 D2 s0 s1 s2 t0 t1 t2 r0 r1 r2 f0 f1 f2 hbw;obtain ⟨s0,s1,s2⟩:=k1D.cells3;obtain ⟨t0,t1,t2⟩:=k2D.cells3;obtain ⟨r0,r1,r2⟩:=k3D.cells3;have f0:=k3D.frozen 0;have f1:=k3D.frozen 1;have f2:=k3D.frozen 2;have hsb:(neg == neg')=false:=by simp [HSG.out]
 have HPQ:=Zh hpq;clear hpq;go_wp2_with fail
 refine (zDN AC AD nC cC nD cD _ _ _ hsC2 hsD).mono ?_;rintro e wX ⟨rfl,qX,rfl⟩
 rw [zAH,zAH];have hcm:zCT (val l*2^q1) (val l' * 2^q2)<0:=by
  have:=HPQ.out;rw [E1.out,E2.out] at this;rw [zCL this];omega
 generalize zCT (val l*2^q1) (val l' * 2^q2)=zc at *;have HLE:Hid ((zAa (val l' * 2^q2 - val l*2^q1)).length<=256):=by
  have:=zCR (v:=val l' * 2^q2 - val l*2^q1) (zAk (val l' * 2^q2)) (by rw [hsD.len];omega) (by rw [zAH];omega);exact this
 have fs0:=k1D.frozen 0;have fs1:=k1D.frozen 1;have fs2:=k1D.frozen 2;go_wp2_with fail
 have k1S:=(k1D.drewN qX).set3 (.bool neg') (.slice B m d) (.int .i64 x');have k3S:=(((k3D.drewN qX).far (p:=⟨w.heap.size,0,none⟩) (by simp <;> omega) (.bool neg')).far (p:=⟨w.heap.size,1,none⟩) (by simp <;> omega) (.slice B m d)).far (p:=⟨w.heap.size,2,none⟩) (by simp <;> omega) (.int .i64 x');have hsCS:=(((hsC2.drewN qX).far FC.out (Nat.lt_succ_self _) 0 (.bool neg')).far FC.out (Nat.lt_succ_self _) 1 (.slice B m d)).far FC.out (Nat.lt_succ_self _) 2 (.int .i64 x');have hsDS:=(((hsD.drewN qX).far FD.out (Nat.lt_succ_self _) 0 (.bool neg')).far FD.out (Nat.lt_succ_self _) 1 (.slice B m d)).far FD.out (Nat.lt_succ_self _) 2 (.int .i64 x');have hbS:=zAG (zAR hbwD qX) (Ya _) (.bool neg') (.slice B m d) (.int .i64 x');have hbDS:=zAG (B:=w.heap.size) (zAR (Yp _ wD) qX) (Ya _) (.bool neg') (.slice B m d) (.int .i64 x');have HTS:=Zh (HTD.out.below hbDS HG0.out);have hzS:=Yq hzD hbDS.size;clear k1D k2D k3D hsC2 hsD hbwD HTD hzD s0 s1 s2 t0 t1 t2 r0 r1 r2 f0 f1 f2 fs0 fs1 fs2 hbDS;generalize ((((wD.drewN qX).setCell ⟨w.heap.size,0,none⟩ (.bool neg')).setCell ⟨w.heap.size,1,none⟩ (.slice B m d)).setCell ⟨w.heap.size,2,none⟩ (.int .i64 x'))=wS at *;have k1D:=k1S;have k2D:=k1S;have k3D:=k3S;have hsC2:=hsCS;have hsD:=hsDS;have hbwD:=hbS;have HTD:=HTS;have hzD:=hzS;obtain ⟨s0,s1,s2⟩:=k1D.cells3;obtain ⟨r0,r1,r2⟩:=k3D.cells3;obtain ⟨t0,t1,t2⟩:=k1D.cells3;have f0:=k3D.frozen 0;have f1:=k3D.frozen 1;have f2:=k3D.frozen 2;clear k1S k3S hsCS hsDS hbS HTS hzS;refine (zJO AD AC nD cD nC cC _ _ _ hsD hsC2 (by omega) (by omega) (by have:=HPQ.out;rw [E1.out,E2.out] at this;rw [zAH,zAH];omega)).mono ?_;rintro e wE ⟨AE,nE,cE,rfl,hsE,hfE,hbE⟩
 rw [zAH,zAH] at hsE;have hbwE:=zAA hbwD hbE;have k1E:=k1D.below hbE (by omega);have k3E:=k3D.below hbE (by omega);have HTE:=Zh (HTD.out.next hbE);have hzE:w.heap.size+3<=wE.heap.size:=by have:=hbE.size;omega
 have SV:Hid (zDB neg neg' (val l*2^(x - mn).toNat) (val l' * 2^(x' - mn).toNat) mn=zAu neg' (val l' * 2^q2 - val l*2^q1) mn):=by unfold Hid;rw [E1.out,E2.out];have hp:=HPQ.out;rw [E1.out,E2.out] at hp;rw [zDB,if_neg HSG.out,if_pos hp]
 generalize zDB neg neg' (val l*2^(x - mn).toNat) (val l' * 2^(x' - mn).toNat) mn=r at *;generalize val l' * 2^q2 - val l*2^q1=V at *;clear k1D k2D k3D HTD hzD hsC2 hsD hbE s0 s1 s2 t0 t1 t2 r0 r1 r2 f0 f1 f2 hbwD;obtain ⟨s0,s1,s2⟩:=k1E.cells3;obtain ⟨r0,r1,r2⟩:=k3E.cells3;have hnE:nE<=256:=by rw [<- hsE.len];exact HLE.out
 go_wp2_with fail
 refine (zAi neg' AE nE cE _ mn _ hsE hnE (by omega) (by omega) HTE.out).mono ?_;rintro e wF ⟨AF,nF,cF,rfl,hsF,hfF,hbF⟩
 rw [zAH] at hsF ⊢;have hnF:nF<=256:=by
  rw [<- hsF.len];unfold zAN
  split
  ·simp [zAZ]
  ·exact zCR (zAk V) HLE.out (by rw [zAH];exact Nat.div_le_self _ _)
 have HD:Hid (zAu neg' V mn=if inR (val (zAN neg' V mn).l) (zAN neg' V mn).e=true then (zAN neg' V mn,0) else (zAZ,9)):=rfl;have hrd:r=if inR (val (zAN neg' V mn).l) (zAN neg' V mn).e=true then (zAN neg' V mn,0) else (zAZ,9):=by rw [SV.out,HD.out]
 have HRD:=Zh hrd;clear hrd HD SV;generalize zAN neg' V mn=dd at *;by_cases hr:inR (val dd.l) dd.e=true
 ·have hrr:r=(dd,0):=by rw [HRD.out,if_pos hr]
  subst hrr;go_wp2_with fail
  refine (zBf dd.neg AF nF cF dd.l dd.e _ hsF (by omega) hr).mono ?_;rintro e wG ⟨rfl,hbG⟩
  have hbFG:=zAA hbF hbG;have k3G:=k3E.below hbFG (by omega);obtain ⟨v0,v1,v2⟩:=k3G.cells3;have g0:=k3G.frozen 0;have g1:=k3G.frozen 1;have g2:=k3G.frozen 2;have hzG:w.heap.size+3<=wG.heap.size:=by have:=hbFG.size;omega
  clear hr HRD;go_wp2_with fail
  refine Yn (zBI Tryz.results177 rfl (k3G.set3 _ _ _)) rfl ?_;have hsG:=hsF.below hbG;have hlt:w.heap.size+1+1<wE.heap.size:=by omega
  exact ⟨AF,nF,cF,rfl,(((hsG.far hfF hlt 0 _).far hfF hlt 1 _).far hfF hlt 2 _),hfF.mono (by omega),zAG (zAA hbwE hbFG) (by omega) _ _ _⟩
 ·have hrr:r=(zAZ,9):=by rw [HRD.out,if_neg hr]
  subst hrr;go_wp2_with fail
  refine (zBJ dd.neg AF nF cF dd.l dd.e _ hsF (by omega) (by simpa using hr)).mono ?_;rintro e wG ⟨rfl,hbG⟩
  have hbFG:=zAA hbF hbG;have k3G:=k3E.below hbFG (by omega);obtain ⟨v0,v1,v2⟩:=k3G.cells3;have g0:=k3G.frozen 0;have g1:=k3G.frozen 1;have g2:=k3G.frozen 2;have hzG:w.heap.size+3<=wG.heap.size:=by have:=hbFG.size;omega
  clear hr HRD;go_wp2_with fail
  refine Yn (zBI Tryz.results177 rfl (k3G.set3 _ _ _)) rfl ?_;exact ⟨none,0,0,rfl,SL.nil _,zAn.zero,zAG (zAA hbwE hbFG) (by omega) _ _ _⟩
theorem zQ0 (neg neg':Bool) (A B:Option Addr) (n c m d:Nat) (l l':List Nat) (x x' mn:Int) (w:World) (h:SL w A n c l) (h':SL w B m d l') (ht:zBx w)
  (hv:vld ⟨neg,l,x⟩=true) (hv':vld ⟨neg',l',x'⟩=true) (hne:n≠0) (hne':m≠0) (hmn:min x x' = mn) (he:4097<max ((zAT (val l):Int)+x) ((zAT (val l'):Int)+x') - mn) (he1:¬ 1<((zAT (val l):Int)+x) - ((zAT (val l'):Int)+x')) (he2:¬ 1<((zAT (val l'):Int)+x') - ((zAT (val l):Int)+x)) (hsg:¬ neg=neg') (hpq:(val l*2^(x - mn).toNat<val l' * 2^(x' - mn).toNat)) :
  Calls Tryz.prog 177 #[.agg #[.bool neg,.slice A n c,.int .i64 x],.agg #[.bool neg',.slice B m d,.int .i64 x']] w (zJI (zDB neg neg' (val l*2^(x - mn).toNat) (val l' * 2^(x' - mn).toNat) mn).1 (zDB neg neg' (val l*2^(x - mn).toNat) (val l' * 2^(x' - mn).toNat) mn).2 w):=by
 have HSG:=Zh hsg;clear hsg;obtain ⟨b1,b2,b3,b4,b5,b6,b7⟩:=zAU hv ((zAL h).2 hne);obtain ⟨b1',b2',b3',b4',b5',b6',b7'⟩:=zAU hv' ((zAL h').2 hne');have hn256:n<=256:=by rw [<- h.len];exact b1
 have hm256:m<=256:=by rw [<- h'.len];exact b1'
 have B2:=Zh b2;have B2':=Zh b2';have B3:=Zh b3;have B3':=Zh b3';have TT:Hid (zCU ⟨neg,l,x⟩=(zAT (val l):Int)+x):=by unfold Hid zCU;rw [if_pos ⟨hv,(zAL h).2 hne⟩]
 have TT':Hid (zCU ⟨neg',l',x'⟩=(zAT (val l'):Int)+x'):=by unfold Hid zCU;rw [if_pos ⟨hv',(zAL h').2 hne'⟩]
 have n0:((n:Int) == 0)=false:=by simp;omega
 have m0:((m:Int) == 0)=false:=by simp;omega
 have hm1:mn<=x:=by omega
 have hm2:mn<=x':=by omega
 have hm3:mn=x\/mn=x':=by omega
 simp only at b4 b5 b6 b7 b4' b5' b6' b7';have hm4:-16384<=mn:=by omega
 have HM3:=Zh hm3;have HMN:=Zh hmn;have HV:=Zh hv;have HV':=Zh hv';clear b1 b1' b2 b2' b3 b3' hmn hv hv' hm3;go_enter Tryz.func177,Tryz.ntmps177
 go_wp2_with fail
 rw [HMN.out];obtain ⟨k1,k2,k3,k4,k5⟩:=zNO w 30 #[.bool neg,.slice A n c,.int .i64 x] #[.bool neg',.slice B m d,.int .i64 x'] #[.bool false,.slice none 0 0,.int .i64 0];have h1:=h.below k5;have h1':=h'.below k5;have HT:=Zh (ht.next k5);have HG0:=Zh ht.lt;clear ht;generalize ((w.alloc (.cells #[.bool neg,.slice A n c,.int .i64 x] 30)).alloc (.cells #[.bool neg',.slice B m d,.int .i64 x'] 30)).alloc (.cells #[.bool false,.slice none 0 0,.int .i64 0] 30)=W0 at *;obtain ⟨s0,s1,s2⟩:=k1.cells3;obtain ⟨t0,t1,t2⟩:=k2.cells3;have hz:w.heap.size+3<=W0.heap.size:=by omega
 clear k4
 go_region_held3 (fun W=>W.cell? ⟨w.heap.size,0,none⟩=some (.bool neg)/\W.cell? ⟨w.heap.size,1,none⟩=some (.slice A n c)/\W.cell? ⟨w.heap.size,2,none⟩=some (.int .i64 x)/\W.cell? ⟨w.heap.size+1,0,none⟩=some (.bool neg')/\W.cell? ⟨w.heap.size+1,1,none⟩=some (.slice B m d)/\W.cell? ⟨w.heap.size+1,2,none⟩=some (.int .i64 x'))
  (first | exact ⟨s0,s1,s2,t0,t1,t2⟩ | exact zCn hbA (by simp;omega) (by simp;omega) ⟨s0,s1,s2,t0,t1,t2⟩ | exact zCn (zAA hbA hbB) (by simp;omega) (by simp;omega) ⟨s0,s1,s2,t0,t1,t2⟩)
  (first
   | (go_at_call 77; (with_reducible refine (zBB neg A n c l x _ h1.drew (by omega)).mono ?_);rintro e wA ⟨rfl,hbA⟩)
   | (go_at_call 77; (with_reducible refine (zBB neg' B m d l' x' _ (h1'.drew.below hbA) (by omega)).mono ?_);rintro e wB ⟨rfl,hbB⟩))
 rw [TT.out,TT'.out];have hbAB:=zAA hbA hbB;have k1B:=k1.drew.below hbAB (by simp;omega);have k2B:=k2.drew.below hbAB (by simp;omega);have k3B:=k3.drew.below hbAB (by simp;omega);have hbw:Below w.heap.size w wB:=zAA (zAR k5 1) hbAB;have h2:=h1.drew.below hbAB;have h2':=h1'.drew.below hbAB;have HTB:=Zh ((show zBx W0.drew from HT.out).next hbAB);have hzB:w.heap.size+3<=wB.heap.size:=by have:=hbAB.size;simp at this;omega
 clear k1 k2 k3 k5 h1 h1' s0 s1 s2 t0 t1 t2 HT hbA hbB hbAB hz TT TT' HV HV';obtain ⟨s0,s1,s2⟩:=k1B.cells3;obtain ⟨t0,t1,t2⟩:=k2B.cells3;obtain ⟨r0,r1,r2⟩:=k3B.cells3;have f0:=k3B.frozen 0;have f1:=k3B.frozen 1;have f2:=k3B.frozen 2;have HN1:Hid (zAT (val l)=zAT (val l)):=rfl;generalize hN1:zAT (val l)=N1 at *;generalize hN2:zAT (val l')=N2 at *;have HBN1:=Zh hN1;have HBN2:=Zh hN2;clear hN1 hN2 HN1;have hmx1:max ((N1:Int)+x) ((N2:Int)+x')<=40000:=by omega
 have hmx2:-40000<=max ((N1:Int)+x) ((N2:Int)+x'):=by omega
 have hd1:decide (4097<max ((N1:Int)+x) ((N2:Int)+x') - mn)=true:=Yf (by omega);have q1e:∃q1:Nat,x - mn=(q1:Int):=⟨(x - mn).toNat,by omega⟩;have q2e:∃q2:Nat,x' - mn=(q2:Int):=⟨(x' - mn).toNat,by omega⟩;obtain ⟨q1,hq1⟩:=q1e;obtain ⟨q2,hq2⟩:=q2e;have hm3:=HM3.out;have hT1:N1+q1<=4097:=by omega
 have hT2:N2+q2<=4097:=by omega
 have hq1b:q1<=65536:=by omega
 have hq2b:q2<=65536:=by omega
 have P1:0<val l:=by have:=B3.out;omega
 have P2:0<val l':=by have:=B3'.out;omega
 have L1:Hid (zAT (val l*2^q1)=N1+q1):=by unfold Hid;rw [zAc _ _ P1,HBN1.out]
 have L2:Hid (zAT (val l' * 2^q2)=N2+q2):=by unfold Hid;rw [zAc _ _ P2,HBN2.out]
 have D1:Hid ((zAa (val l*2^q1)).length<=256):=Yq (zAP _ 129 (by rw [L1.out];omega)) (by omega);have D2:Hid ((zAa (val l' * 2^q2)).length<=256):=Yq (zAP _ 129 (by rw [L2.out];omega)) (by omega);have W1:IntKind.i64.wrap (x - mn)=(q1:Int):=by rw [hq1];exact IntWalk.i64_in _ (by omega)
 have W2:IntKind.i64.wrap (x' - mn)=(q2:Int):=by rw [hq2];exact IntWalk.i64_in _ (by omega)
 have E1:Hid ((x - mn).toNat=q1):=by unfold Hid;omega
 have E2:Hid ((x' - mn).toNat=q2):=by unfold Hid;omega
 clear hm3 hq1 hq2 P1 P2;go_wp2_with fail
 go_region_held3 (fun W=>W.cell? ⟨w.heap.size,1,none⟩=some (.slice A n c)/\W.cell? ⟨w.heap.size,2,none⟩=some (.int .i64 x)/\W.cell? ⟨w.heap.size+1,1,none⟩=some (.slice B m d)/\W.cell? ⟨w.heap.size+1,2,none⟩=some (.int .i64 x'))
  (first | exact ⟨s1,s2,t1,t2⟩ | exact zEf hbC (by simp;omega) (by simp;omega) ⟨s1,s2,t1,t2⟩ | exact zEf (zAA hbC hbD) (by simp;omega) (by simp;omega) ⟨s1,s2,t1,t2⟩)
  (first
   | (go_at_call 79; (with_reducible refine (zAs A n c q1 _ l _ h2.drew hn256 rfl hq1b D1.out).mono ?_);rintro e wC ⟨AC,nC,cC,rfl,hsC,hfC,hbC⟩)
   | (go_at_call 79; (with_reducible refine (zAs B m d q2 _ l' _ (h2'.drew.below hbC) hm256 rfl hq2b D2.out).mono ?_);rintro e wD ⟨AD,nD,cD,rfl,hsD,hfD,hbD⟩))
 have hbCD:=zAA hbC hbD;have k1D:=k1B.drew.below hbCD (by simp;omega);have k2D:=k2B.drew.below hbCD (by simp;omega);have k3D:=k3B.drew.below hbCD (by simp;omega);have hbwD:Below w.heap.size w wD:=zAA (zAR hbw 1) hbCD;have hsC2:=hsC.below hbD;have HTD:=Zh ((show zBx wB.drew from HTB.out).next hbCD);have hzD:w.heap.size+3<=wD.heap.size:=by have:=hbCD.size;simp at this;omega
 have hsz1:=hbC.size;simp at hsz1;have FC:Hid (zAn (w.heap.size+1) AC nC):=hfC.mono (by simp;omega);have FD:Hid (zAn (w.heap.size+1) AD nD):=hfD.mono (by omega);clear hsz1;have hnC:nC<=129:=by rw [<- hsC.len];exact zAP _ 129 (by rw [L1.out];omega)
 have hnD:nD<=129:=by rw [<- hsD.len];exact zAP _ 129 (by rw [L2.out];omega)
 clear k1B k2B k3B h2 h2' HTB hbC hbD hbCD hsC hfC hfD hzB W1 W2 D1 D2 s0 s1 s2 t0 t1 t2 r0 r1 r2 f0 f1 f2 hbw;obtain ⟨s0,s1,s2⟩:=k1D.cells3;obtain ⟨t0,t1,t2⟩:=k2D.cells3;obtain ⟨r0,r1,r2⟩:=k3D.cells3;have f0:=k3D.frozen 0;have f1:=k3D.frozen 1;have f2:=k3D.frozen 2;have hsb:(neg == neg')=false:=by simp [HSG.out]
 have HPQ:=Zh hpq;clear hpq;go_wp2_with fail
 refine (zDN AC AD nC cC nD cD _ _ _ hsC2 hsD).mono ?_;rintro e wX ⟨rfl,qX,rfl⟩
 rw [zAH,zAH];have hcm:zCT (val l*2^q1) (val l' * 2^q2)<0:=by
  have:=HPQ.out;rw [E1.out,E2.out] at this;rw [zCL this];omega
 generalize zCT (val l*2^q1) (val l' * 2^q2)=zc at *;have HLE:Hid ((zAa (val l' * 2^q2 - val l*2^q1)).length<=256):=by
  have:=zCR (v:=val l' * 2^q2 - val l*2^q1) (zAk (val l' * 2^q2)) (by rw [hsD.len];omega) (by rw [zAH];omega);exact this
 have fs0:=k1D.frozen 0;have fs1:=k1D.frozen 1;have fs2:=k1D.frozen 2;go_wp2_with fail
 have k1S:=(k1D.drewN qX).set3 (.bool neg') (.slice B m d) (.int .i64 x');have k3S:=(((k3D.drewN qX).far (p:=⟨w.heap.size,0,none⟩) (by simp <;> omega) (.bool neg')).far (p:=⟨w.heap.size,1,none⟩) (by simp <;> omega) (.slice B m d)).far (p:=⟨w.heap.size,2,none⟩) (by simp <;> omega) (.int .i64 x');have hsCS:=(((hsC2.drewN qX).far FC.out (Nat.lt_succ_self _) 0 (.bool neg')).far FC.out (Nat.lt_succ_self _) 1 (.slice B m d)).far FC.out (Nat.lt_succ_self _) 2 (.int .i64 x');have hsDS:=(((hsD.drewN qX).far FD.out (Nat.lt_succ_self _) 0 (.bool neg')).far FD.out (Nat.lt_succ_self _) 1 (.slice B m d)).far FD.out (Nat.lt_succ_self _) 2 (.int .i64 x');have hbS:=zAG (zAR hbwD qX) (Ya _) (.bool neg') (.slice B m d) (.int .i64 x');have hbDS:=zAG (B:=w.heap.size) (zAR (Yp _ wD) qX) (Ya _) (.bool neg') (.slice B m d) (.int .i64 x');have HTS:=Zh (HTD.out.below hbDS HG0.out);have hzS:=Yq hzD hbDS.size;clear k1D k2D k3D hsC2 hsD hbwD HTD hzD s0 s1 s2 t0 t1 t2 r0 r1 r2 f0 f1 f2 fs0 fs1 fs2 hbDS;generalize ((((wD.drewN qX).setCell ⟨w.heap.size,0,none⟩ (.bool neg')).setCell ⟨w.heap.size,1,none⟩ (.slice B m d)).setCell ⟨w.heap.size,2,none⟩ (.int .i64 x'))=wS at *;have k1D:=k1S;have k2D:=k1S;have k3D:=k3S;have hsC2:=hsCS;have hsD:=hsDS;have hbwD:=hbS;have HTD:=HTS;have hzD:=hzS;obtain ⟨s0,s1,s2⟩:=k1D.cells3;obtain ⟨r0,r1,r2⟩:=k3D.cells3;obtain ⟨t0,t1,t2⟩:=k1D.cells3;have f0:=k3D.frozen 0;have f1:=k3D.frozen 1;have f2:=k3D.frozen 2;clear k1S k3S hsCS hsDS hbS HTS hzS;refine (zJO AD AC nD cD nC cC _ _ _ hsD hsC2 (by omega) (by omega) (by have:=HPQ.out;rw [E1.out,E2.out] at this;rw [zAH,zAH];omega)).mono ?_;rintro e wE ⟨AE,nE,cE,rfl,hsE,hfE,hbE⟩
 rw [zAH,zAH] at hsE;have hbwE:=zAA hbwD hbE;have k1E:=k1D.below hbE (by omega);have k3E:=k3D.below hbE (by omega);have HTE:=Zh (HTD.out.next hbE);have hzE:w.heap.size+3<=wE.heap.size:=by have:=hbE.size;omega
 have SV:Hid (zDB neg neg' (val l*2^(x - mn).toNat) (val l' * 2^(x' - mn).toNat) mn=zAu neg' (val l' * 2^q2 - val l*2^q1) mn):=by unfold Hid;rw [E1.out,E2.out];have hp:=HPQ.out;rw [E1.out,E2.out] at hp;rw [zDB,if_neg HSG.out,if_pos hp]
 generalize zDB neg neg' (val l*2^(x - mn).toNat) (val l' * 2^(x' - mn).toNat) mn=r at *;generalize val l' * 2^q2 - val l*2^q1=V at *;clear k1D k2D k3D HTD hzD hsC2 hsD hbE s0 s1 s2 t0 t1 t2 r0 r1 r2 f0 f1 f2 hbwD;obtain ⟨s0,s1,s2⟩:=k1E.cells3;obtain ⟨r0,r1,r2⟩:=k3E.cells3;have hnE:nE<=256:=by rw [<- hsE.len];exact HLE.out
 go_wp2_with fail
 refine (zAi neg' AE nE cE _ mn _ hsE hnE (by omega) (by omega) HTE.out).mono ?_;rintro e wF ⟨AF,nF,cF,rfl,hsF,hfF,hbF⟩
 rw [zAH] at hsF ⊢;have hnF:nF<=256:=by
  rw [<- hsF.len];unfold zAN
  split
  ·simp [zAZ]
  ·exact zCR (zAk V) HLE.out (by rw [zAH];exact Nat.div_le_self _ _)
 have HD:Hid (zAu neg' V mn=if inR (val (zAN neg' V mn).l) (zAN neg' V mn).e=true then (zAN neg' V mn,0) else (zAZ,9)):=rfl;have hrd:r=if inR (val (zAN neg' V mn).l) (zAN neg' V mn).e=true then (zAN neg' V mn,0) else (zAZ,9):=by rw [SV.out,HD.out]
 have HRD:=Zh hrd;clear hrd HD SV;generalize zAN neg' V mn=dd at *;by_cases hr:inR (val dd.l) dd.e=true
 ·have hrr:r=(dd,0):=by rw [HRD.out,if_pos hr]
  subst hrr;go_wp2_with fail
  refine (zBf dd.neg AF nF cF dd.l dd.e _ hsF (by omega) hr).mono ?_;rintro e wG ⟨rfl,hbG⟩
  have hbFG:=zAA hbF hbG;have k3G:=k3E.below hbFG (by omega);obtain ⟨v0,v1,v2⟩:=k3G.cells3;have g0:=k3G.frozen 0;have g1:=k3G.frozen 1;have g2:=k3G.frozen 2;have hzG:w.heap.size+3<=wG.heap.size:=by have:=hbFG.size;omega
  clear hr HRD;go_wp2_with fail
  refine Yn (zBI Tryz.results177 rfl (k3G.set3 _ _ _)) rfl ?_;have hsG:=hsF.below hbG;have hlt:w.heap.size+1+1<wE.heap.size:=by omega
  exact ⟨AF,nF,cF,rfl,(((hsG.far hfF hlt 0 _).far hfF hlt 1 _).far hfF hlt 2 _),hfF.mono (by omega),zAG (zAA hbwE hbFG) (by omega) _ _ _⟩
 ·have hrr:r=(zAZ,9):=by rw [HRD.out,if_neg hr]
  subst hrr;go_wp2_with fail
  refine (zBJ dd.neg AF nF cF dd.l dd.e _ hsF (by omega) (by simpa using hr)).mono ?_;rintro e wG ⟨rfl,hbG⟩
  have hbFG:=zAA hbF hbG;have k3G:=k3E.below hbFG (by omega);obtain ⟨v0,v1,v2⟩:=k3G.cells3;have g0:=k3G.frozen 0;have g1:=k3G.frozen 1;have g2:=k3G.frozen 2;have hzG:w.heap.size+3<=wG.heap.size:=by have:=hbFG.size;omega
  clear hr HRD;go_wp2_with fail
  refine Yn (zBI Tryz.results177 rfl (k3G.set3 _ _ _)) rfl ?_;exact ⟨none,0,0,rfl,SL.nil _,zAn.zero,zAG (zAA hbwE hbFG) (by omega) _ _ _⟩
theorem zGZ {neg:Bool}{l:List Nat}{x:Int}(hl:zAV l) (h:vld ⟨neg,l,x⟩=true):zAN neg (val l) x=⟨neg,l,x⟩:=by
 by_cases hne:l=[]
 ·subst hne
  rw [zEm] at h;simp at h;obtain ⟨h1,h2⟩:=h;subst h1 h2;rfl
 ·obtain ⟨b1,b2,b3,_⟩:=zAU h hne
  simp only at b1 b2 b3;rw [zCb (by omega),(tz_odd' b3).1];simp [zD3 l hl b2]
def zGM (d d':Dy):Dy×Int:=if d.l=[] then (d',0) else if d'.l=[] then (d,0) else
 zDB d.neg d'.neg (val d.l*2^(d.e - min d.e d'.e).toNat) (val d'.l*2^(d'.e - min d.e d'.e).toNat) (min d.e d'.e)
theorem zHM {neg:Bool}{w:World}{A:Option Addr}{n c:Nat}{l:List Nat}{x:Int}(h:SL w A n c l) (hv:vld ⟨neg,l,x⟩=true):n<=256/\-16384<=x/\x<=16384:=by
 by_cases hne:l=[]
 ·subst hne
  have:=h.len;rw [zEm] at hv;simp at hv this;omega
 ·obtain ⟨b1,b2,b3,b4,b5,b6,_⟩:=zAU hv hne
  simp only at b1 b5 b6;rw [h.len] at b1;exact ⟨b1,b5,b6⟩
theorem zPS (neg neg':Bool) (A B:Option Addr) (c m d:Nat) (l':List Nat) (x x':Int) (w:World) (h':SL w B m d l') (ht:zBx w) (hv':vld ⟨neg',l',x'⟩=true) :
  Calls Tryz.prog 177 #[.agg #[.bool neg,.slice A 0 c,.int .i64 x],.agg #[.bool neg',.slice B m d,.int .i64 x']] w (zJI ⟨neg',l',x'⟩ 0 w):=by
 obtain ⟨b1',b5',b6'⟩:=zHM h' hv';have HCV:=Zh (zGZ h'.lt hv');clear hv';obtain ⟨k1,k2,k3,k4,k5⟩:=zNO w 30 #[.bool neg',.slice B m d,.int .i64 x'] #[.bool neg',.slice B m d,.int .i64 x'] #[.bool false,.slice none 0 0,.int .i64 0];have h1':=h'.below k5;have HT:=Zh (ht.next k5);clear ht;go_enter Tryz.func177,Tryz.ntmps177
 go_wp2_with fail
 refine (zAi neg' B m d l' x' _ h1' b1' (by omega) (by omega) HT.out).mono ?_;rintro e wF ⟨AF,nF,cF,rfl,hsF,hfF,hbF⟩
 rw [HCV.out] at hsF ⊢;have k3G:=k3.below hbF (by omega);have hzF:w.heap.size+3<=wF.heap.size:=by have:=hbF.size;omega
 obtain ⟨v0,v1,v2⟩:=k3G.cells3;have g0:=k3G.frozen 0;have g1:=k3G.frozen 1;have g2:=k3G.frozen 2;go_wp2_with fail
 refine Yn (zBI Tryz.results177 rfl (k3G.set3 _ _ _)) rfl ?_;exact ⟨AF,nF,cF,rfl,(((hsF.far hfF (by omega) 0 _).far hfF (by omega) 1 _).far hfF (by omega) 2 _),hfF.mono (by omega),zAG (zAA k5 hbF) (by omega) _ _ _⟩
theorem zNF (neg neg':Bool) (A B:Option Addr) (n c d:Nat) (l:List Nat) (x x':Int) (w:World) (h:SL w A n c l) (ht:zBx w) (hv:vld ⟨neg,l,x⟩=true) (hne:n≠0) :
  Calls Tryz.prog 177 #[.agg #[.bool neg,.slice A n c,.int .i64 x],.agg #[.bool neg',.slice B 0 d,.int .i64 x']] w (zJI ⟨neg,l,x⟩ 0 w):=by
 obtain ⟨b1',b5',b6'⟩:=zHM h hv;have HCV:=Zh (zGZ h.lt hv);clear hv;have n0:((n:Int) == 0)=false:=by simp;omega
 obtain ⟨k1,k2,k3,k4,k5⟩:=zNO w 30 #[.bool neg,.slice A n c,.int .i64 x] #[.bool neg',.slice B 0 d,.int .i64 x'] #[.bool false,.slice none 0 0,.int .i64 0];have h1':=h.below k5;have HT:=Zh (ht.next k5);clear ht;go_enter Tryz.func177,Tryz.ntmps177
 go_wp2_with fail
 refine (zAi neg A n c l x _ h1' b1' (by omega) (by omega) HT.out).mono ?_;rintro e wF ⟨AF,nF,cF,rfl,hsF,hfF,hbF⟩
 rw [HCV.out] at hsF ⊢;have k3G:=k3.below hbF (by omega);have hzF:w.heap.size+3<=wF.heap.size:=by have:=hbF.size;omega
 obtain ⟨v0,v1,v2⟩:=k3G.cells3;have g0:=k3G.frozen 0;have g1:=k3G.frozen 1;have g2:=k3G.frozen 2;go_wp2_with fail
 refine Yn (zBI Tryz.results177 rfl (k3G.set3 _ _ _)) rfl ?_;exact ⟨AF,nF,cF,rfl,(((hsF.far hfF (by omega) 0 _).far hfF (by omega) 1 _).far hfF (by omega) 2 _),hfF.mono (by omega),zAG (zAA k5 hbF) (by omega) _ _ _⟩
theorem zPQ (neg neg':Bool) (A B:Option Addr) (n c m d:Nat) (l l':List Nat) (x x':Int) (w:World) (h:SL w A n c l) (h':SL w B m d l') (ht:zBx w)
  (hv:vld ⟨neg,l,x⟩=true) (hv':vld ⟨neg',l',x'⟩=true) :
  Calls Tryz.prog 177 #[.agg #[.bool neg,.slice A n c,.int .i64 x],.agg #[.bool neg',.slice B m d,.int .i64 x']] w
   (zJI (zGM ⟨neg,l,x⟩ ⟨neg',l',x'⟩).1 (zGM ⟨neg,l,x⟩ ⟨neg',l',x'⟩).2 w):=by
 by_cases hn:n=0
 ·have hl:=h.empty hn
  subst hn hl;have:=zPS neg neg' A B c m d l' x x' w h' ht hv'
  rwa [zGM,if_pos rfl]
 by_cases hm:m=0
 ·have hl:=h'.empty hm
  subst hm hl;have:=zNF neg neg' A B n c d l x x' w h ht hv hn
  rwa [zGM,if_neg ((zAL h).2 hn),if_pos rfl]
 rw [zGM,if_neg ((zAL h).2 hn),if_neg ((zAL h').2 hm)];simp only;by_cases he:4097<max ((zAT (val l):Int)+x) ((zAT (val l'):Int)+x') - min x x'
 ·by_cases hd:1<((zAT (val l):Int)+x) - ((zAT (val l'):Int)+x')\/1<((zAT (val l'):Int)+x') - ((zAT (val l):Int)+x)
  ·obtain ⟨_,_,b3,b4,_⟩:=zAU hv ((zAL h).2 hn)
   obtain ⟨_,_,b3',b4',_⟩:=zAU hv' ((zAL h').2 hm);rw [zPR b3 b3' b4 b4' rfl he hd];exact zI8 neg neg' A B n c m d l l' x x' _ w h h' ht hv hv' hn hm rfl ⟨he,hd⟩
  ·have hd1:¬ 1<((zAT (val l):Int)+x) - ((zAT (val l'):Int)+x'):=fun g=>hd (.inl g)
   have hd2:¬ 1<((zAT (val l'):Int)+x') - ((zAT (val l):Int)+x):=fun g=>hd (.inr g)
   by_cases hs:neg=neg'
   ·exact zNH neg neg' A B n c m d l l' x x' _ w h h' ht hv hv' hn hm rfl he hd1 hd2 hs
   ·by_cases hp:val l*2^(x - min x x').toNat<val l' * 2^(x' - min x x').toNat
    ·exact zQ0 neg neg' A B n c m d l l' x x' _ w h h' ht hv hv' hn hm rfl he hd1 hd2 hs hp
    ·exact zQy neg neg' A B n c m d l l' x x' _ w h h' ht hv hv' hn hm rfl he hd1 hd2 hs hp
 ·by_cases hs:neg=neg'
  ·exact zNG neg neg' A B n c m d l l' x x' _ w h h' ht hv hv' hn hm rfl he hs
  ·by_cases hp:val l*2^(x - min x x').toNat<val l' * 2^(x' - min x x').toNat
   ·exact zQz neg neg' A B n c m d l l' x x' _ w h h' ht hv hv' hn hm rfl he hs hp
   ·exact zQx neg neg' A B n c m d l l' x x' _ w h h' ht hv hv' hn hm rfl he hs hp
def zCP (d d':Dy):Dy×Int:=if vld d=true/\vld d' = true then zGM d d' else (zAZ,1)
theorem zIO (neg neg':Bool) (A B:Option Addr) (n c m d:Nat) (l l':List Nat) (x x':Int) (w:World) (h:SL w A n c l) (h':SL w B m d l') (ht:zBx w) (hn:n<=1000000) (hm:m<=1000000) :
  Calls Tryz.prog 116 #[.agg #[.bool neg,.slice A n c,.int .i64 x],.agg #[.bool neg',.slice B m d,.int .i64 x']] w
   (zJI (zCP ⟨neg,l,x⟩ ⟨neg',l',x'⟩).1 (zCP ⟨neg,l,x⟩ ⟨neg',l',x'⟩).2 w):=by
 have HA:Hid (zCP ⟨neg,l,x⟩ ⟨neg',l',x'⟩=if vld ⟨neg,l,x⟩=true/\vld ⟨neg',l',x'⟩=true then zGM ⟨neg,l,x⟩ ⟨neg',l',x'⟩ else (zAZ,1)):=rfl;generalize zCP ⟨neg,l,x⟩ ⟨neg',l',x'⟩=r at *;have HS:Hid (vld ⟨neg,l,x⟩=true->vld ⟨neg',l',x'⟩=true->∀W,SL W A n c l->SL W B m d l'->zBx W->Calls Tryz.prog 177 #[.agg #[.bool neg,.slice A n c,.int .i64 x],.agg #[.bool neg',.slice B m d,.int .i64 x']] W
   (zJI (zGM ⟨neg,l,x⟩ ⟨neg',l',x'⟩).1 (zGM ⟨neg,l,x⟩ ⟨neg',l',x'⟩).2 W)):=fun hv hv' W h1 h2 h3=>zPQ neg neg' A B n c m d l l' x x' W h1 h2 h3 hv hv'
 generalize zGM ⟨neg,l,x⟩ ⟨neg',l',x'⟩=sd at *;obtain ⟨k1,k2,k3,k4,k5⟩:=zNO w 30 #[.bool neg,.slice A n c,.int .i64 x] #[.bool neg',.slice B m d,.int .i64 x'] #[.bool false,.slice none 0 0,.int .i64 0];have h1:=h.below k5;have h1':=h'.below k5;have HT:=Zh (ht.next k5);clear ht;generalize hv:vld ⟨neg,l,x⟩=v at *;generalize hv':vld ⟨neg',l',x'⟩=v' at *;have HV:=Zh hv;have HV':=Zh hv';clear hv hv';go_enter Tryz.func116,Tryz.ntmps116
 go_wp2_with fail
 generalize ((w.alloc (.cells #[.bool neg,.slice A n c,.int .i64 x] 30)).alloc (.cells #[.bool neg',.slice B m d,.int .i64 x'] 30)).alloc (.cells #[.bool false,.slice none 0 0,.int .i64 0] 30)=W0 at *;refine (zA4 neg A n c l x _ h1 (by omega)).mono ?_;rintro e w1 ⟨rfl,hb1⟩
 rw [HV.out];have j1:=k1.below hb1 (by omega);have j2:=k2.below hb1 (by omega);have j3:=k3.below hb1 (by omega);have hz1:w.heap.size+3<=w1.heap.size:=by have:=hb1.size;omega
 have h2:=h1.below hb1;have h2':=h1'.below hb1;have HT1:=Zh (HT.out.next hb1);have hbw:=zAA k5 hb1;obtain ⟨s0,s1,s2⟩:=j1.cells3;obtain ⟨t0,t1,t2⟩:=j2.cells3;obtain ⟨r0,r1,r2⟩:=j3.cells3;have f0:=j3.frozen 0;have f1:=j3.frozen 1;have f2:=j3.frozen 2;clear k1 k2 k3 k4 h1 h1' HT hb1;cases v
 ·have hr:r=(zAZ,1):=by rw [HA.out];simp
  subst hr;clear HA HS;go_wp2_with fail
  refine Yn (zBI Tryz.results116 rfl (j3.set3 _ _ _)) rfl ?_;exact ⟨none,0,0,rfl,SL.nil _,zAn.zero,zAG hbw (by omega) _ _ _⟩
 ·go_wp2_with fail
  refine (zA4 neg' B m d l' x' _ h2' (by omega)).mono ?_;rintro e w2 ⟨rfl,hb2⟩
  rw [HV'.out];have i1:=j1.below hb2 (by omega);have i2:=j2.below hb2 (by omega);have i3:=j3.below hb2 (by omega);have hz2:w.heap.size+3<=w2.heap.size:=by have:=hb2.size;omega
  have h3:=h2.below hb2;have h3':=h2'.below hb2;have HT2:=Zh (HT1.out.next hb2);have hbw2:=zAA hbw hb2;clear s0 s1 s2 t0 t1 t2 r0 r1 r2 f0 f1 f2 j1 j2 j3 h2 h2' HT1 hb2 hbw hz1;obtain ⟨s0,s1,s2⟩:=i1.cells3;obtain ⟨t0,t1,t2⟩:=i2.cells3;obtain ⟨r0,r1,r2⟩:=i3.cells3;have f0:=i3.frozen 0;have f1:=i3.frozen 1;have f2:=i3.frozen 2;cases v'
  ·have hr:r=(zAZ,1):=by rw [HA.out];simp
   subst hr;clear HA HS;go_wp2_with fail
   refine Yn (zBI Tryz.results116 rfl (i3.set3 _ _ _)) rfl ?_;exact ⟨none,0,0,rfl,SL.nil _,zAn.zero,zAG hbw2 (by omega) _ _ _⟩
  ·have hr:r=sd:=by rw [HA.out];simp
   subst hr;clear HA;go_wp2_with fail
   refine (HS.out (by simp) (by simp) _ h3 h3' HT2.out).mono ?_;rintro e w3 ⟨A3,n3,c3,rfl,hs3,hf3,hb3⟩
   have g3:=i3.below hb3 (by omega);obtain ⟨v0,v1,v2⟩:=g3.cells3;have e0:=g3.frozen 0;have e1:=g3.frozen 1;have e2:=g3.frozen 2;have hz3:w.heap.size+3<=w3.heap.size:=by have:=hb3.size;omega
   go_wp2_with fail
   refine Yn (zBI Tryz.results116 rfl (g3.set3 _ _ _)) rfl ?_;exact ⟨A3,n3,c3,rfl,(((hs3.far hf3 (by omega) 0 _).far hf3 (by omega) 1 _).far hf3 (by omega) 2 _),hf3.mono (by omega),zAG (zAA hbw2 hb3) (by omega) _ _ _⟩
def zNQ (n:Int):Dy:=zAN (decide (n<0)) n.natAbs 0
theorem zPb (k:Nat):val [k%4294967296,k / 4294967296]=k:=by simp [val];omega
theorem SL.two (w:World) (t:TypeId) (x y:Nat) (hx:x<4294967296) (hy:y<4294967296):SL (w.alloc (.cells #[.int .u32 (x:Int),.int .u32 (y:Int)] t)) (some ⟨w.heap.size,0,none⟩) 2 2 [x,y]:=
 ⟨rfl,by omega,by omega,fun z hz=>by simp at hz;omega,fun _=>⟨_,_,rfl,by simp,fun j z hz=>by
  rcases j with _ | _ | j
  ·simp at hz;subst hz;simp
  ·simp at hz;subst hz;simp
  ·simp at hz⟩⟩
theorem zEe (k:Nat) (w:World) (hk:k<9223372036854775808) (ht:zBx w) :
  Calls Tryz.prog 94 #[.int .i64 (k:Int)] w (zNV (zNQ k) w):=by
 have HI:Hid (zNQ k=zAN false (val [k%4294967296,k / 4294967296]) 0):=by
  unfold Hid zNQ;rw [zPb,show decide ((k:Int)<0)=false from by simp,Int.natAbs_natCast]
 have HT:=Zh ht;clear ht;have e1:(k:Int)%4294967296=((k%4294967296:Nat):Int):=by omega
 have e2:(k:Int) / 4294967296=((k / 4294967296:Nat):Int):=by omega
 have E1:=Zh e1;have E2:=Zh e2;clear e1 e2;have hdk:decide ((k:Int)<0)=false:=by simp
 go_enter Tryz.func94,Tryz.ntmps94
 go_wp2_with fail
 have e1:=E1.out;have e2:=E2.out;rw [e1,e2];clear e1 e2;have hs0:=SL.two (w.alloc (.cells #[.bool false,.slice none 0 0,.int .i64 0] 30)) 113 (k%4294967296) (k / 4294967296) (by omega) (by omega);rw [World.size_alloc] at hs0;have hb0:Below w.heap.size w ((w.alloc (.cells #[.bool false,.slice none 0 0,.int .i64 0] 30)).alloc (.cells #[.int .u32 ((k%4294967296:Nat):Int),.int .u32 ((k / 4294967296:Nat):Int)] 113)):=(zAE _ _).alloc (by simp) _;have k1:=(Blk.new w 30 #[.bool false,.slice none 0 0,.int .i64 0]).alloc (.cells #[.int .u32 ((k%4294967296:Nat):Int),.int .u32 ((k / 4294967296:Nat):Int)] 113);have hz0:w.heap.size+2<=((w.alloc (.cells #[.bool false,.slice none 0 0,.int .i64 0] 30)).alloc (.cells #[.int .u32 ((k%4294967296:Nat):Int),.int .u32 ((k / 4294967296:Nat):Int)] 113)).heap.size:=by simp
 generalize (w.alloc (.cells #[.bool false,.slice none 0 0,.int .i64 0] 30)).alloc (.cells #[.int .u32 ((k%4294967296:Nat):Int),.int .u32 ((k / 4294967296:Nat):Int)] 113)=W0 at *;refine (zAi false _ 2 2 _ 0 _ hs0 (by omega) (by omega) (by omega) (HT.out.next hb0)).mono ?_;rintro e w1 ⟨A1,n1,c1,rfl,hs1,hf1,hb1⟩
 rw [<- HI.out] at hs1 ⊢;have j1:=k1.below hb1 (by omega);obtain ⟨s0,s1,s2⟩:=j1.cells3;have f0:=j1.frozen 0;have f1:=j1.frozen 1;have f2:=j1.frozen 2;have hz1:w.heap.size+2<=w1.heap.size:=by have:=hb1.size;omega
 go_wp2_with fail
 refine Yn (zHV Tryz.results94 rfl (j1.set3 _ _ _)) rfl ?_;exact ⟨A1,n1,c1,rfl,(((hs1.far hf1 (by omega) 0 _).far hf1 (by omega) 1 _).far hf1 (by omega) 2 _),hf1.mono (by omega),zAG (zAA hb0 hb1) (by omega) _ _ _⟩
theorem zQH (k:Nat) (w:World) (hk:k<=9223372036854775808) (h0:0<k) (ht:zBx w) :
  Calls Tryz.prog 94 #[.int .i64 (-(k:Int))] w (zNV (zNQ (-(k:Int))) w):=by
 have HI:Hid (zNQ (-(k:Int))=zAN true (val [k%4294967296,k / 4294967296]) 0):=by
  unfold Hid zNQ;rw [zPb,show decide (-(k:Int)<0)=true from by simp;omega,Int.natAbs_neg,Int.natAbs_natCast]
 have HT:=Zh ht;clear ht;have e1:(k:Int)%4294967296=((k%4294967296:Nat):Int):=by omega
 have e2:(k:Int) / 4294967296=((k / 4294967296:Nat):Int):=by omega
 have E1:=Zh e1;have E2:=Zh e2;clear e1 e2;have hwk:IntKind.u64.wrap (-IntKind.u64.wrap (-(k:Int)))=(k:Int):=by
  simp only [IntKind.wrap,IntKind.bits,IntKind.signed];simp;omega
 have hm:(k:Int) / 4294967296%4294967296=(k:Int) / 4294967296:=by omega
 go_enter Tryz.func94,Tryz.ntmps94
 go_wp2_with fail
 have e1:=E1.out;have e2:=E2.out;rw [e1,e2];clear e1 e2;have hs0:=SL.two (w.alloc (.cells #[.bool false,.slice none 0 0,.int .i64 0] 30)) 113 (k%4294967296) (k / 4294967296) (by omega) (by omega);rw [World.size_alloc] at hs0;have hb0:Below w.heap.size w ((w.alloc (.cells #[.bool false,.slice none 0 0,.int .i64 0] 30)).alloc (.cells #[.int .u32 ((k%4294967296:Nat):Int),.int .u32 ((k / 4294967296:Nat):Int)] 113)):=(zAE _ _).alloc (by simp) _;have k1:=(Blk.new w 30 #[.bool false,.slice none 0 0,.int .i64 0]).alloc (.cells #[.int .u32 ((k%4294967296:Nat):Int),.int .u32 ((k / 4294967296:Nat):Int)] 113);have hz0:w.heap.size+2<=((w.alloc (.cells #[.bool false,.slice none 0 0,.int .i64 0] 30)).alloc (.cells #[.int .u32 ((k%4294967296:Nat):Int),.int .u32 ((k / 4294967296:Nat):Int)] 113)).heap.size:=by simp
 generalize (w.alloc (.cells #[.bool false,.slice none 0 0,.int .i64 0] 30)).alloc (.cells #[.int .u32 ((k%4294967296:Nat):Int),.int .u32 ((k / 4294967296:Nat):Int)] 113)=W0 at *;refine (zAi true _ 2 2 _ 0 _ hs0 (by omega) (by omega) (by omega) (HT.out.next hb0)).mono ?_;rintro e w1 ⟨A1,n1,c1,rfl,hs1,hf1,hb1⟩
 rw [<- HI.out] at hs1 ⊢;have j1:=k1.below hb1 (by omega);obtain ⟨s0,s1,s2⟩:=j1.cells3;have f0:=j1.frozen 0;have f1:=j1.frozen 1;have f2:=j1.frozen 2;have hz1:w.heap.size+2<=w1.heap.size:=by have:=hb1.size;omega
 go_wp2_with fail
 refine Yn (zHV Tryz.results94 rfl (j1.set3 _ _ _)) rfl ?_;exact ⟨A1,n1,c1,rfl,(((hs1.far hf1 (by omega) 0 _).far hf1 (by omega) 1 _).far hf1 (by omega) 2 _),hf1.mono (by omega),zAG (zAA hb0 hb1) (by omega) _ _ _⟩
open Go.ChangeShapes Go.WideShapes Go.ChangeAt
theorem zf6:ownKnob Tryz.prog.godebug=none:=by kernel_rfl
theorem zf5:Tryz.prog.globalNamed "math/bits.deBruijn32tab" = some 1:=by kernel_rfl
theorem zQA:(Tryz.prog.globals[1]?).map (·.type)=some 374:=by kernel_rfl
theorem zPw:Tryz.prog.cellsOf 374=32:=by kernel_rfl
theorem cells8:Tryz.prog.cellsOf 5=1:=by kernel_rfl
theorem zR9:Tryz.prog.cellsOf 113=1:=by kernel_rfl
theorem zJV:Tryz.prog.cellsOf 30=3:=by kernel_rfl
def zPT:List Int:=Lib.deBruijn32tab.map (fun n:Nat=>(n:Int))
def zPU:List Int:=Lib.deBruijn64tab.map (fun n:Nat=>(n:Int))
theorem zTU {W:World}{rest:List (String×DataW Unit)}(h:laidMet Tryz.prog (("math/bits.deBruijn32tab",Rows.laid_math_bits_deBruijn32tab)::rest) W):zBx W:=by
 have h':laidMet Tryz.prog (("math/bits.deBruijn32tab",Lib.tabData .u8 zPT)::rest) W:=h;have ht:=Lib.tabIs_of_head (rest:=rest) zf5 zQA Tryz.underlying374 Tryz.underlying5 cells8 zPw h';intro j hj;have hj':j<zPT.length:=by simpa [zPT] using hj
 have:=ht.cell zf5 j hj';rw [this]
 congr 2
 simp [zPT,List.getD,hj]
theorem zIG {H:Type}{enc:TypeId×Value->H}{W:World}{base fuel:Nat}{v:Value}{x:DataW H×List MemPlace}(hf:DataW.trod enc Tryz.prog W base (fun _=>true) true fuel 28 [v]=some x) :
  ∃A n c l,v=.slice A n c/\SL W A n c l:=by
 rcases open_ints Tryz.underlying28 Tryz.underlying113 zR9 hf with ⟨hcs,_⟩ | ⟨a,len,cap,zs,hcs,_,hl,hm,hz,_,hcell,hwz⟩
 ·injection hcs with e _
  exact ⟨none,0,0,[],e,SL.nil W⟩
 ·injection hcs with e _
  rw [if_pos rfl] at hz;refine ⟨some a,len,cap,(zs.take len).map Int.toNat,e,⟨by simp [hz];omega,hl,by simpa [maxLen] using hm,?_,?_⟩⟩
  ·intro y hy
   obtain ⟨z,hz1,rfl⟩:=List.mem_map.1 hy;have:=bounds_u32 (hwz z (List.mem_of_mem_take hz1));omega
  ·intro hn
   obtain ⟨b,off,rfl,hc⟩:=ints_at hcell (by omega);have hlt:b<W.heap.size:=by
    have:=hc 0 (by omega);rcases Xj b W.heap.size with hlt | hge
    ·exact hlt
    ·simp [World.cell?,Array.getElem?_eq_none hge] at this
   refine ⟨b,off,rfl,hlt,fun j y hy=>?_⟩;have hj:j<len:=by
    rcases Xj j len with h' | h'
    ·exact h'
    ·rw [Yy (by simp;omega)] at hy;cases hy
   have hzj:zs[j]? = some zs[j]:=Yo (by omega);have hw:=bounds_u32 (hwz zs[j] (List.getElem_mem (by omega)));have hy2:y=(zs[j]).toNat:=by
    rw [List.getElem?_map,Xf hj,hzj] at hy
    simpa using hy.symm
   rw [hc j (by omega)];simp only [List.getD,hzj,Option.getD_some,hy2]
   congr 2
   omega
theorem stays {H:Type}{enc:TypeId×Value->H}{t:TypeId}{W W':World}{sp:Nat->Bool}{v:Value}{d:DataW H}{ps:List MemPlace}(hr:Tryz.prog.readableRec t=true) (hrow:decide (t<Tryz.prog.types.size)=true)
  (h:DataW.Trod enc Tryz.prog W 0 (fun _=>true) true t v d ps) (hb:Below W.heap.size W W') (hlt:∀x∈ps,x.block<W.heap.size) (hsp:∀x∈ps,sp x.block=true):DataW.Trod enc Tryz.prog W' 0 sp true t v d ps:=
 WideElems.Trod_stays zQN hr (of_decide_eq_true hrow) h (fun x hx=>hb.same (hlt x hx)) hsp
section
variable {H:Type}{enc:TypeId×Value->H}{P:Program}
theorem zFA {f:Func}{s:ChangeSpec}{apart fresh handsOn again:Bool}{W W':World}{args:Array Value}{v:Value}{ds gs:List (DataW H)}{before pa pv:List MemPlace}
  (hW:DataW.Whole enc P f.params.toList s.vars apart W args.toList ds gs before)
  (hres:∀ (b:Nat) (sp:Nat->Bool) (hd:Bool),DataW.TrodAll enc P W' b sp hd f.resultTypes.toList (v.resultList f.resultTypes.size) (s.fn H (ds++gs)).results [])
  (hargs:∀sp:Nat->Bool,(∀p∈before,sp p.block=true)->DataW.TrodAll enc P W' 0 sp true f.params.toList args.toList (s.fn H (ds++gs)).args pa)
  (hvars:∀sp:Nat->Bool,(∀p∈before,sp p.block=true)->DataW.TrodVars enc P W' sp s.vars (s.fn H (ds++gs)).vars pv)
  (hps:before=pa++pv) (hb:Below W.heap.size W W')
  (hok:∀ (j:Nat) (t:TypeId) (r:Value),f.resultTypes[j]? = some t->(v.resultList f.resultTypes.size)[j]? = some r->Value.okWide P W' .any 0 t r) :
  s.post enc P f apart fresh handsOn again W args v W':=by
 have hlt:∀p∈before,p.block<W.heap.size:=fun p hp=>hW.lt p hp
 have hold:∀p∈before,(fun b=>decide (b<W.heap.size)) p.block=true:=fun p hp=>by simpa using hlt p hp
 refine ⟨ds,gs,before,[],pa,pv,hW,hres _ _ _,hargs _ hold,hvars _ hold,World.keptBut_mono (fun p hp=>⟨hp,?_⟩) (hb.frame (· ∈ before)),fun _=>?_⟩
 ·rw [hps,Yt] at hp
  exact Or.inr hp
 ·obtain ⟨_,_,_,_,_,hz,hn⟩:=hW
  refine ⟨hok,_,_,([]++pa)++pv,⟨[]++pa,pv,trodAll_append (hargs _ (fun _ _=>rfl)) (hres _ _ _),hvars _ (fun _ _=>rfl),rfl,?_,?_⟩,?_⟩
  ·intro b off hp
   have hin:MemPlace.cell b off∈before:=by rw [hps];simpa using hp
   rw [hb.frozen (hlt _ hin)];exact hz b off hin
  ·intro ha
   have:=hn ha;rw [hps] at this
   simpa using this
  ·intro p hp _
   rw [hps]
   simpa using hp
end
def zJ8 (cs:Array Value):Obj->Obj
 | .cells _ t frozen=>.cells cs t frozen
 | o=>o
theorem zKp {H:Type}{enc:TypeId×Value->H}{W:World}{base fuel:Nat}{v:Value}{x:DataW H×List MemPlace}(hf:DataW.trod enc Tryz.prog W base (fun _=>true) true fuel 4 [v]=some x):∃b:Bool,v=.bool b:=by
 obtain ⟨b,h,_⟩:=DataW.trod_bool Tryz.underlying4 hf;injection h with e _
 exact ⟨b,e⟩
theorem zLh {H:Type}{enc:TypeId×Value->H}{W:World}{base fuel:Nat}{v:Value}{x:DataW H×List MemPlace}(hf:DataW.trod enc Tryz.prog W base (fun _=>true) true fuel 3 [v]=some x):∃n:Int,v=.int .i64 n:=by
 obtain ⟨n,h,_⟩:=DataW.trod_int Tryz.underlying3 hf;injection h with e _
 exact ⟨n,e⟩
def zHI (d d':Dy):Dy×Int:=if vld d=true/\vld d' = true then zGM d (zEL d') else (zAZ,1)
theorem zJE {d:Dy}(hv:vld d=true):vld (zEL d)=true:=by
 unfold zEL
 split
 ·rename_i h
  unfold vld at hv ⊢;simp only [Xa] at hv ⊢;rcases hv with h' | h'
  ·exact absurd h'.1 h.2
  ·exact .inr h'
 ·rfl
theorem zI7 (neg neg':Bool) (A B:Option Addr) (n c m d:Nat) (l l':List Nat) (x x':Int) (w:World) (h:SL w A n c l) (h':SL w B m d l') (ht:zBx w) (hn:n<=1000000) (hm:m<=1000000) :
  Calls Tryz.prog 113 #[.agg #[.bool neg,.slice A n c,.int .i64 x],.agg #[.bool neg',.slice B m d,.int .i64 x']] w
   (zJI (zHI ⟨neg,l,x⟩ ⟨neg',l',x'⟩).1 (zHI ⟨neg,l,x⟩ ⟨neg',l',x'⟩).2 w):=by
 have HA:Hid (zHI ⟨neg,l,x⟩ ⟨neg',l',x'⟩=if vld ⟨neg,l,x⟩=true/\vld ⟨neg',l',x'⟩=true then zGM ⟨neg,l,x⟩ (zEL ⟨neg',l',x'⟩) else (zAZ,1)):=rfl;generalize zHI ⟨neg,l,x⟩ ⟨neg',l',x'⟩=r at *;obtain ⟨⟨nn,nl,ne⟩,hnd⟩:∃d,d=zEL ⟨neg',l',x'⟩:=⟨_,rfl⟩;have HND:=Zh hnd;have HVN:Hid (vld ⟨neg',l',x'⟩=true->vld ⟨nn,nl,ne⟩=true):=fun hv'=>by rw [hnd];exact zJE hv'
 rw [<- hnd] at HA;clear hnd;have HS:Hid (vld ⟨neg,l,x⟩=true->vld ⟨nn,nl,ne⟩=true->∀W AA nA cA,SL W A n c l->SL W AA nA cA nl->zBx W->Calls Tryz.prog 177 #[.agg #[.bool neg,.slice A n c,.int .i64 x],.agg #[.bool nn,.slice AA nA cA,.int .i64 ne]] W
   (zJI (zGM ⟨neg,l,x⟩ ⟨nn,nl,ne⟩).1 (zGM ⟨neg,l,x⟩ ⟨nn,nl,ne⟩).2 W)):=fun hv hv' W AA nA cA h1 h2 h3=>zPQ neg nn A AA n c nA cA l nl x ne W h1 h2 h3 hv hv'
 generalize zGM ⟨neg,l,x⟩ ⟨nn,nl,ne⟩=sd at *;obtain ⟨k1,k2,k3,k4,k5⟩:=zNO w 30 #[.bool neg,.slice A n c,.int .i64 x] #[.bool neg',.slice B m d,.int .i64 x'] #[.bool false,.slice none 0 0,.int .i64 0];have h1:=h.below k5;have h1':=h'.below k5;have HT:=Zh (ht.next k5);clear ht;generalize hv:vld ⟨neg,l,x⟩=v at *;generalize hv':vld ⟨neg',l',x'⟩=v' at *;have HV:=Zh hv;have HV':=Zh hv';clear hv hv';go_enter Tryz.func113,Tryz.ntmps113
 go_wp2_with fail
 generalize ((w.alloc (.cells #[.bool neg,.slice A n c,.int .i64 x] 30)).alloc (.cells #[.bool neg',.slice B m d,.int .i64 x'] 30)).alloc (.cells #[.bool false,.slice none 0 0,.int .i64 0] 30)=W0 at *;refine (zA4 neg A n c l x _ h1 (by omega)).mono ?_;rintro e w1 ⟨rfl,hb1⟩
 rw [HV.out];have j1:=k1.below hb1 (by omega);have j2:=k2.below hb1 (by omega);have j3:=k3.below hb1 (by omega);have hz1:w.heap.size+3<=w1.heap.size:=by have:=hb1.size;omega
 have h2:=h1.below hb1;have h2':=h1'.below hb1;have HT1:=Zh (HT.out.next hb1);have hbw:=zAA k5 hb1;obtain ⟨s0,s1,s2⟩:=j1.cells3;obtain ⟨t0,t1,t2⟩:=j2.cells3;obtain ⟨r0,r1,r2⟩:=j3.cells3;have f0:=j3.frozen 0;have f1:=j3.frozen 1;have f2:=j3.frozen 2;clear k1 k2 k3 k4 h1 h1' HT hb1;cases v
 ·have hr:r=(zAZ,1):=by rw [HA.out];simp
  subst hr;clear HA HS;go_wp2_with fail
  refine Yn (zBI Tryz.results113 rfl (j3.set3 _ _ _)) rfl ?_;exact ⟨none,0,0,rfl,SL.nil _,zAn.zero,zAG hbw (by omega) _ _ _⟩
 ·go_wp2_with fail
  refine (zA4 neg' B m d l' x' _ h2' (by omega)).mono ?_;rintro e w2 ⟨rfl,hb2⟩
  rw [HV'.out];have i1:=j1.below hb2 (by omega);have i2:=j2.below hb2 (by omega);have i3:=j3.below hb2 (by omega);have hz2:w.heap.size+3<=w2.heap.size:=by have:=hb2.size;omega
  have h3:=h2.below hb2;have h3':=h2'.below hb2;have HT2:=Zh (HT1.out.next hb2);have hbw2:=zAA hbw hb2;clear s0 s1 s2 t0 t1 t2 r0 r1 r2 f0 f1 f2 j1 j2 j3 h2 h2' HT1 hb2 hbw hz1;obtain ⟨s0,s1,s2⟩:=i1.cells3;obtain ⟨t0,t1,t2⟩:=i2.cells3;obtain ⟨r0,r1,r2⟩:=i3.cells3;have f0:=i3.frozen 0;have f1:=i3.frozen 1;have f2:=i3.frozen 2;cases v'
  ·have hr:r=(zAZ,1):=by rw [HA.out];simp
   subst hr;clear HA HS;go_wp2_with fail
   refine Yn (zBI Tryz.results113 rfl (i3.set3 _ _ _)) rfl ?_;exact ⟨none,0,0,rfl,SL.nil _,zAn.zero,zAG hbw2 (by omega) _ _ _⟩
  ·have hr:r=sd:=by rw [HA.out];simp
   subst hr;clear HA;have hg0:w.heap.size<w2.drew.heap.size:=i1.lt;have hg1:w.heap.size+1<w2.drew.heap.size:=i2.lt;have hg2:w.heap.size+2<w2.drew.heap.size:=i3.lt;clear r0 r1 r2 f0 f1 f2;go_wp2_with fail
   go_region_held3 (fun W=>W.cell? ⟨w.heap.size,0,none⟩=some (.bool neg)/\W.cell? ⟨w.heap.size,1,none⟩=some (.slice A n c)/\W.cell? ⟨w.heap.size,2,none⟩=some (.int .i64 x)/\W.cell? ⟨w.heap.size+1,0,none⟩=some (.bool neg')/\W.cell? ⟨w.heap.size+1,1,none⟩=some (.slice B m d)/\W.cell? ⟨w.heap.size+1,2,none⟩=some (.int .i64 x'))
    (first | exact ⟨s0,s1,s2,t0,t1,t2⟩ | exact zCn hbA hg0 hg1 ⟨s0,s1,s2,t0,t1,t2⟩ | exact zCn hbB hg0 hg1 ⟨s0,s1,s2,t0,t1,t2⟩ | exact zCn (zAG (B:=w.heap.size+2) (Yp _ _) (Ya _) _ _ _) (by omega) (by omega) (zCn hbB hg0 hg1 ⟨s0,s1,s2,t0,t1,t2⟩))
    (first
     | (go_at_call 58; (refine (zL2 neg' B m d l' x' _ h3'.drew (by omega)).mono ?_);rw [<- HND.out];rintro e wA ⟨AA,nA,cA,rfl,hsA,hfA,hbA⟩)
     | (go_at_call 177; (refine (HS.out (by simp) (HVN.out (by simp)) _ AA nA cA (h3.drew.below hbA) hsA ((show zBx w2.drew from HT2.out).next hbA)).mono ?_);rintro e w3 ⟨A3,n3,c3,rfl,hs3,hf3,hb3⟩;have hbB:=zAA hbA hb3;have g3:=i3.drew.below hbB hg2;obtain ⟨v0,v1,v2⟩:=g3.cells3;have e0:=g3.frozen 0;have e1:=g3.frozen 1;have e2:=g3.frozen 2))
   have hz3:w.heap.size+3<=wA.heap.size:=by have:=hbA.size;simp at this;omega
   go_wp2_with fail
   refine Yn (zBI Tryz.results113 rfl (g3.set3 _ _ _)) rfl ?_;exact ⟨A3,n3,c3,rfl,(((hs3.far hf3 (by omega) 0 _).far hf3 (by omega) 1 _).far hf3 (by omega) 2 _),hf3.mono (by omega),zAG (zAA (zAR hbw2 1) hbB) (by omega) _ _ _⟩
def zIF (d:Dy) (k:Int):Dy×Int:=if vld d=true/\zNP k=true then zAu d.neg (val d.l) (d.e+k) else (zAZ,1)
theorem zNA (neg:Bool) (A:Option Addr) (n c:Nat) (l:List Nat) (x k:Int) (w:World) (h:SL w A n c l) (ht:zBx w) (hn:n<=1000000) :
  Calls Tryz.prog 171 #[.agg #[.bool neg,.slice A n c,.int .i64 x],.int .i64 k] w (zJI (zIF ⟨neg,l,x⟩ k).1 (zIF ⟨neg,l,x⟩ k).2 w):=by
 have HA:Hid (zIF ⟨neg,l,x⟩ k=if vld ⟨neg,l,x⟩=true/\zNP k=true then zAu neg (val l) (x+k) else (zAZ,1)):=rfl;generalize zIF ⟨neg,l,x⟩ k=r at *;have k1:=(Blk.new w 30 #[.bool neg,.slice A n c,.int .i64 x]).alloc (.cells #[.bool false,.slice none 0 0,.int .i64 0] 30);have k3:=Blk.newAt (w.alloc (.cells #[.bool neg,.slice A n c,.int .i64 x] 30)) 30 #[.bool false,.slice none 0 0,.int .i64 0] (g:=w.heap.size+1) (by simp);have k5:=(zAE w (.cells #[.bool neg,.slice A n c,.int .i64 x] 30)).alloc (by simp) (.cells #[.bool false,.slice none 0 0,.int .i64 0] 30);have h1:=h.below k5;have HT:=Zh (ht.next k5);have HVB:Hid (vld ⟨neg,l,x⟩=true->n<=256/\-16384<=x/\x<=16384):=fun hv=>zHM h hv
 clear ht;generalize hv:vld ⟨neg,l,x⟩=v at *;have HV:=Zh hv;clear hv;go_enter Tryz.func171,Tryz.ntmps171
 go_wp2_with fail
 generalize (w.alloc (.cells #[.bool neg,.slice A n c,.int .i64 x] 30)).alloc (.cells #[.bool false,.slice none 0 0,.int .i64 0] 30)=W0 at *;refine (zA4 neg A n c l x _ h1 (by omega)).mono ?_;rintro e w1 ⟨rfl,hb1⟩
 rw [HV.out];have j1:=k1.below hb1 k1.lt;have j3:=k3.below hb1 k3.lt;have hz1:w.heap.size+2<=w1.heap.size:=j3.lt;have h2:=h1.below hb1;have HT1:=Zh (HT.out.next hb1);have hbw:=zAA k5 hb1;obtain ⟨s0,s1,s2⟩:=j1.cells3;obtain ⟨r0,r1,r2⟩:=j3.cells3;have f0:=j3.frozen 0;have f1:=j3.frozen 1;have f2:=j3.frozen 2;clear k1 k3 h1 HT hb1;cases v
 ·have hr:r=(zAZ,1):=by rw [HA.out];simp
  subst hr;clear HA;go_wp2_with fail
  refine Yn (zBI Tryz.results171 rfl (j3.set3 _ _ _)) rfl ?_;exact ⟨none,0,0,rfl,SL.nil _,zAn.zero,zAG hbw (by omega) _ _ _⟩
 ·go_wp2_with fail
  refine (zFu k _).mono ?_;rintro e w' ⟨rfl,rfl⟩
  cases hk:zNP k
  ·have hr:r=(zAZ,1):=by rw [HA.out,hk];simp
   subst hr;clear HA;go_wp2_with fail
   refine Yn (zBI Tryz.results171 rfl (j3.set3 _ _ _)) rfl ?_;exact ⟨none,0,0,rfl,SL.nil _,zAn.zero,zAG hbw (by omega) _ _ _⟩
  ·have hkb:-32768<=k/\k<=32768:=by simpa [zNP] using hk
   obtain ⟨hk1,hk2⟩:=hkb;obtain ⟨hn256,hx1,hx2⟩:=HVB.out (by simp);have hr:r=zAu neg (val l) (x+k):=by rw [HA.out,hk];simp
   have HR:=Zh hr;clear HA hk hr;have hw:IntKind.i64.wrap (x+k)=x+k:=IntWalk.i64_in _ (by omega);go_wp2_with fail
   first | (refine (zAi neg A n c l (x+k) _ h2 hn256 (by omega) (by omega) HT1.out).mono ?_) | (rw [hw];refine (zAi neg A n c l (x+k) _ h2 hn256 (by omega) (by omega) HT1.out).mono ?_)
   rintro e w2 ⟨A1,n1,c1,rfl,hs1,hf1,hb2⟩
   have hn1:n1<=256:=by
    rw [<- hs1.len];unfold zAN
    split
    ·simp [zAZ]
    ·exact zCR h.lt (by rw [h.len];exact hn256) (Nat.div_le_self _ _)
   have HD:Hid (r=if inR (val (zAN neg (val l) (x+k)).l) (zAN neg (val l) (x+k)).e=true then (zAN neg (val l) (x+k),0) else (zAZ,9)):=HR.out;generalize hd:zAN neg (val l) (x+k)=d at *;clear hd HR;have hbw2:=zAA hbw hb2;have i3:=j3.below hb2 j3.lt;clear hw s0 s1 s2 r0 r1 r2 f0 f1 f2;by_cases hr:inR (val d.l) d.e=true
   ·have hrr:r=(d,0):=by rw [HD.out,if_pos hr]
    subst hrr;go_wp2_with fail
    refine (zBf d.neg A1 n1 c1 d.l d.e _ hs1 (by omega) hr).mono ?_;rintro e w3 ⟨rfl,hb3⟩
    have HRR:=Zh hr;clear hr HD;have g3:=i3.below hb3 i3.lt;obtain ⟨v0,v1,v2⟩:=g3.cells3;have e0:=g3.frozen 0;have e1:=g3.frozen 1;have e2:=g3.frozen 2;have hf1':zAn (w.heap.size+2) A1 n1:=hf1.mono hz1;go_wp2_with fail
    refine Yn (zBI Tryz.results171 rfl (g3.set3 _ _ _)) rfl ?_;exact ⟨A1,n1,c1,rfl,((((hs1.below hb3).far hf1' (by omega) 0 _).far hf1' (by omega) 1 _).far hf1' (by omega) 2 _),hf1.mono (by omega),zAG (zAA hbw2 hb3) (by omega) _ _ _⟩
   ·have hrr:r=(zAZ,9):=by rw [HD.out,if_neg hr]
    subst hrr;go_wp2_with fail
    refine (zBJ d.neg A1 n1 c1 d.l d.e _ hs1 (by omega) (by simpa using hr)).mono ?_;rintro e w3 ⟨rfl,hb3⟩
    have HRR:=Zh hr;clear hr HD;have g3:=i3.below hb3 i3.lt;have hz2:w.heap.size+2<=w2.heap.size:=i3.lt;obtain ⟨v0,v1,v2⟩:=g3.cells3;have e0:=g3.frozen 0;have e1:=g3.frozen 1;have e2:=g3.frozen 2;go_wp2_with fail
    refine Yn (zBI Tryz.results171 rfl (g3.set3 _ _ _)) rfl ?_;exact ⟨none,0,0,rfl,SL.nil _,zAn.zero,zAG (zAA hbw2 hb3) (by omega) _ _ _⟩
end Go.Proofs.YtngjhigieajkmaaGreatDoor
namespace Go.Proofs.YtngjhigieajkmaaGreatDoor.Pl
theorem zPa (L:List Nat) (i z y:Nat) (h:L[i]? = some z):val (L.set i y)+4294967296^i*z=val L+4294967296^i*y:=by
 induction L generalizing i with
 | nil=>simp at h
 | cons a t ih=>
  cases i with
  | zero=>
   simp at h;subst h;simp [val];omega
  | succ i=>
   have:=ih i (by simpa using h);simp only [List.set_cons_succ,val,Xi];have e1:4294967296^i*4294967296*z=4294967296*(4294967296^i*z):=by rw [Nat.mul_comm (4294967296^i),Yz]
   have e2:4294967296^i*4294967296*y=4294967296*(4294967296^i*y):=by rw [Nat.mul_comm (4294967296^i),Yz]
   rw [e1,e2];omega
theorem zAV.set {L:List Nat}(h:zAV L) (i:Nat) {y:Nat}(hy:y<4294967296):zAV (L.set i y):=fun x hx=>by
 rcases List.mem_or_eq_of_mem_set hx with h' | h'
 ·exact h x h'
 ·omega
structure Mul (N i m k cy V x:Nat) (b L:List Nat):Prop where
 len:L.length=N
 lim:zAV L
 sum:val L+4294967296^(i+k)*cy=V+4294967296^i*(x*val (b.take k))
 zero:∀j,i+m<=j->j<N->L[j]? = some 0
theorem zJ0 {x y z c:Nat}(hx:x<4294967296) (hy:y<4294967296) (hz:z<4294967296) (hc:c<4294967296):x*y+z+c<18446744073709551616:=by
 have:x*y<=4294967295*4294967295:=Nat.mul_le_mul (by omega) (by omega);omega
theorem Mul.step {N i m k cy V x:Nat}{b L:List Nat}(h:Mul N i m k cy V x b L) (hk:k<m) {y z:Nat}(hy:b[k]? = some y) (hz:L[i+k]? = some z) (hx:x<4294967296) (hyl:y<4294967296) (hc:cy<4294967296) :
  Mul N i m (k+1) ((x*y+z+cy) / 4294967296) V x b (L.set (i+k) ((x*y+z+cy)%4294967296))/\(x*y+z+cy) / 4294967296<4294967296:=by
 have hzl:=h.lim.get hz;have hb:=zJ0 hx hyl hzl hc;refine ⟨⟨by simp [h.len],h.lim.set _ (Nat.mod_lt _ (by omega)),?_,fun j h1 h2=>?_⟩,by omega⟩
 ·have e:=zPa L (i+k) z ((x*y+z+cy)%4294967296) hz
  have s:=h.sum;rw [zBi b k y hy,Nat.mul_add,Nat.mul_add,<- Nat.add_assoc,<- Nat.add_assoc];have e3:4294967296^i*(x*(4294967296^k*y))=4294967296^(i+k)*(x*y):=by
   rw [Nat.pow_add,Nat.mul_left_comm x,Yz]
  rw [e3,<- s,Xi];generalize 4294967296^(i+k)=P at *;have d:=Nat.div_add_mod (x*y+z+cy) 4294967296;generalize (x*y+z+cy) / 4294967296=q at *;generalize (x*y+z+cy)%4294967296=r at *;have e4:P*4294967296*q=P*(4294967296*q):=Yz _ _ _;rw [e4];have e5:P*(4294967296*q)+P*r=P*(x*y)+P*z+P*cy:=by rw [<- Nat.mul_add,d,Nat.mul_add,Nat.mul_add]
  omega
 ·rw [List.getElem?_set_ne (by omega)]
  exact h.zero j h1 h2
theorem Mul.done {N i m cy V x:Nat}{a b L:List Nat}(h:Mul N i m m cy V x b L) (hb:b.length=m) (hi:i+m<N) (hx:a[i]? = some x) (hV:V=val (a.take i)*val b) (hc:cy<4294967296) :
  (L.set (i+m) cy).length=N/\zAV (L.set (i+m) cy)/\val (L.set (i+m) cy)=val (a.take (i+1))*val b/\∀j,i+1+m<=j->j<N->(L.set (i+m) cy)[j]? = some 0:=by
 refine ⟨by simp [h.len],h.lim.set _ hc,?_,fun j h1 h2=>?_⟩
 ·have e:=zPa L (i+m) 0 cy (h.zero (i+m) (Ya _) hi)
  have s:=h.sum;rw [Xd (by omega)] at s;rw [zBi a i x hx,Nat.add_mul,<- hV,Yz,<- s];omega
 ·rw [List.getElem?_set_ne (by omega)]
  exact h.zero j (by omega) h2
end Go.Proofs.YtngjhigieajkmaaGreatDoor.Pl
namespace Go.Proofs.YtngjhigieajkmaaGreatDoor
open Go.RowKit Pl Go.Shelf
theorem zSj (A B:Option Addr) (n c m d:Nat) (l l':List Nat) (w:World) (h:SL w A n c l) (h':SL w B m d l') (hn:n<=1000000) (hm:m<=1000000) :
  Calls Tryz.prog 193 #[.slice A n c,.slice B m d] w (zR1 (val l*val l') 2000000 w):=by
 have hcap:=h.cap;have hcap':=h'.cap;have hmax:=h.max;have hmax':=h'.max;have HL:=Zh h.len;have HL':=Zh h'.len;go_enter Tryz.func193,Tryz.ntmps193
 go_wp2_with (at_make;refine zCl rfl (.tmp 16) (.tmp 16) _ 113 rfl zAw Tryz.underlying28 .i64 .i64 _ _ (n+m) (n+m) rfl rfl (by omega) (by omega) (Ya _) (by omega) ?_;intro w1 hr1 hb1 hs1)
 generalize hNM:n+m=N at *
 go_loopw [20] (fun i wr=>∃ (j:Nat) (L:List Nat),j<=n/\i=.int .i64 j/\Hid (L.length=N/\zAV L/\val L=val (l.take j)*val l'/\∀q,j+m<=q->q<N->L[q]? = some 0)/\Row wr w.heap.size 113 L/\Below w.heap.size w wr) (fun i _=>n - (intOf i).toNat)
 case atStart=>exact ⟨0,List.replicate N 0,Nat.zero_le _,rfl,⟨by simp,zCh _,by simp [zDR,val],fun q _ hq=>by simp [hq]⟩,hr1,hb1⟩
 case round=>
  obtain ⟨i,L,hi,rfl,HI,hr,hb⟩:=hrel;by_cases hlt:i<n
  ·obtain ⟨b,off,x,rfl,hxb,hx,hcell,hxlt⟩:=(h.below hb).get hlt
   have HX:=Zh hx;clear hx;obtain ⟨V,hV⟩:∃V,V=val (l.take i)*val l':=⟨_,rfl⟩;have HV:=Zh hV;clear hV;go_wp2_with fail
   go_loopw [8,27] (fun cv k wr=>∃ (j cy:Nat) (L:List Nat),j<=m/\k=.int .i64 j/\cv=.int .u64 (cy:Int)/\cy<4294967296/\Hid (Mul N i m j cy V x l' L)/\Row wr w.heap.size 113 L/\Below w.heap.size w wr) (fun _ k _=>m - (intOf k).toNat)
   case atStart=>
    exact ⟨0,0,L,Nat.zero_le _,rfl,rfl,by omega,⟨HI.out.1,HI.out.2.1,by rw [HI.out.2.2.1,HV.out];simp [val],HI.out.2.2.2⟩,hr,hb⟩
   case round=>
    obtain ⟨k,cy,L,hk,rfl,rfl,hcy,HM,hr,hb⟩:=hrel;by_cases hlk:k<m
    ·obtain ⟨b',off',y,rfl,hyb,hy,hcelly,hylt⟩:=(h'.below hb).get hlk
     have HY:=Zh hy;clear hy;have hik:i+k<L.length:=by rw [HM.out.len];omega
     obtain ⟨z,hz⟩:∃z,L[i+k]? = some z:=⟨_,Yo hik⟩;have hoc:=hr.cell hz;have hof:=Blk.frozen hr (i+k);have hzl:=HM.out.lim.get hz;have HST:=Zh (HM.out.step hlk HY.out hz hxlt hylt hcy);have hbd:=zJ0 hxlt hylt hzl hcy;clear hik hz;obtain ⟨p,hp⟩:∃p:Nat,x*y=p:=⟨_,rfl⟩;have hpi:(x:Int)*(y:Int)=(p:Int):=by rw [<- hp];simp
     rw [hp] at hbd;have HP:=Zh hp;clear hp;go_wp2_with fail
     go_roundw
     case rel=>
      have e1:((p:Int)+(z:Int)+(cy:Int))%4294967296=(((p+z+cy)%4294967296:Nat):Int):=by omega
      have e2:((p:Int)+(z:Int)+(cy:Int)) / 4294967296=(((p+z+cy) / 4294967296:Nat):Int):=by omega
      have hst:=HST.out;rw [HP.out] at hst;rw [e1,e2];exact ⟨k+1,_,_,by omega,by go_num,rfl,hst.2,hst.1,hr.set_ _ _,hb.setCell (p:=⟨w.heap.size,i+k,none⟩) (Ya _) _⟩
     case measure=>simp [intOf];omega
    ·obtain rfl:k=m:=by omega
     have hz:=HM.out.zero (i+k) (Ya _) (by omega);have hoc:=hr.cell hz;have hof:=Blk.frozen hr (i+k);have HD:=Zh (HM.out.done HL'.out (by omega) HX.out HV.out hcy);clear hz;go_wp2_with fail
     go_roundw
     case rel=>exact ⟨i+1,L.set (i+k) cy,by omega,by go_num,HD.out,hr.set_ _ _,hb.setCell (p:=⟨w.heap.size,i+k,none⟩) (Ya _) _⟩
     case measure=>simp [intOf];omega
  ·obtain rfl:i=n:=by omega
   go_wp2_with fail
   go_ret;obtain ⟨e1,e2,e3,-⟩:=HI.out;rw [Xd (by rw [HL.out];exact Ya _)] at e3;exact ⟨_,_,_,_,rfl,hr.sl e2 e1 (by omega),e3,by omega,fun _=>⟨_,rfl,Ya _⟩,hb⟩
theorem zRA (A B:Option Addr) (n c m d:Nat) (l l':List Nat) (w:World) (h:SL w A n c l) (h':SL w B m d l') (hn:n<=256) (hm:m<=256) (hs:(zAa (val l*val l')).length<=256) :
  Calls Tryz.prog 134 #[.slice A n c,.slice B m d] w (zTf (zAa (val l*val l')) w):=by
 have hw:=h.alloc (.cells #[.slice A n c,.slice B m d] 28);have hw':=h'.alloc (.cells #[.slice A n c,.slice B m d] 28);have hlb:decide (256<n\/256<m)=false:=by simp;omega
 have HLB:=Zh hlb;clear hlb;have t1:=hw.trim;have t2:=hw'.trim;have u1:(zAa (val l)).length<=256:=Yq (zAl l h.lt) (by rw [h.len];exact hn);have u2:(zAa (val l')).length<=256:=Yq (zAl l' h'.lt) (by rw [h'.len];exact hm);go_enter Tryz.func134,Tryz.ntmps134
 go_wp2_with fail
 refine (zIr _ A B n c m d _ (by simp) (by simp)).mono ?_;rintro e w' ⟨rfl,rfl⟩
 rw [HLB.out];go_wp2_with fail
 refine (zBU A n c l _ hw).mono ?_;rintro e w' ⟨rfl,rfl⟩
 go_wp2_with fail
 refine (zBU B m d l' _ hw').mono ?_;rintro e w' ⟨rfl,rfl⟩
 go_wp2_with fail
 refine (zSj A B _ c _ d _ _ _ t1 t2 (by omega) (by omega)).mono ?_;rw [zAH,zAH];rintro e w' ⟨A1,n1,c1,l1,rfl,hs1,hv1,_,hf1,hb1⟩
 have hb:Below w.heap.size w w':=zAA (zAE _ _) hb1;have HV:=Zh hv1;clear hv1;have h256':(zAa (val l1)).length<=256:=by rw [HV.out];exact hs
 clear hs;go_wp2_with fail
 refine (zGi A1 n1 c1 l1 _ hs1 h256').mono ?_;rintro e w2 ⟨rfl,hb2⟩
 go_wp2_with fail
 go_ret2
 have hl1:=zAl l1 hs1.lt;have hl2:=hs1.len;rw [<- HV.out];exact ⟨_,_,_,rfl,(hs1.trim.clip).below hb2,(hf1.mono (by simp)).less (by omega),zAA hb hb2⟩
def zUR (d d':Dy):Dy×Int:=if vld d=true/\vld d' = true then zAu (d.neg != d'.neg) (val d.l*val d'.l) (d.e+d'.e) else (zAZ,1)
theorem zPt {v u:Nat}(hv:0<v) (hu:0<u):zAT v+zAT u<=zAT (v*u)+1/\zAT (v*u)<=zAT v+zAT u:=by
 have p1:=zCS v hv;have p2:=zCS u hu;constructor
 ·have h1:=Nat.mul_le_mul (zDL v hv) (zDL u hu)
  rw [<- Nat.pow_add] at h1;have:=zC8 _ _ h1;omega
 ·refine zBH _ _ ?_
  rw [Nat.pow_add];exact Nat.mul_lt_mul'' (zBu v) (zBu u)
theorem zQU (neg neg':Bool) (A B:Option Addr) (n c m d:Nat) (l l':List Nat) (x x':Int) (w:World) (h:SL w A n c l) (h':SL w B m d l') (ht:zBx w) (hn:n<=1000000) (hm:m<=1000000) :
  Calls Tryz.prog 249 #[.agg #[.bool neg,.slice A n c,.int .i64 x],.agg #[.bool neg',.slice B m d,.int .i64 x']] w
   (zJI (zUR ⟨neg,l,x⟩ ⟨neg',l',x'⟩).1 (zUR ⟨neg,l,x⟩ ⟨neg',l',x'⟩).2 w):=by
 have HA:Hid (zUR ⟨neg,l,x⟩ ⟨neg',l',x'⟩=if vld ⟨neg,l,x⟩=true/\vld ⟨neg',l',x'⟩=true then zAu (neg != neg') (val l*val l') (x+x') else (zAZ,1)):=rfl;generalize zUR ⟨neg,l,x⟩ ⟨neg',l',x'⟩=r at *;have HVB:Hid (vld ⟨neg,l,x⟩=true->n<=256/\-16384<=x/\x<=16384):=fun hv=>zHM h hv
 have HVB':Hid (vld ⟨neg',l',x'⟩=true->m<=256/\-16384<=x'/\x' <= 16384):=fun hv=>zHM h' hv
 have HVO:Hid (vld ⟨neg,l,x⟩=true->n≠0->val l%2=1):=fun hv hn=>(zAU hv ((zAL h).2 hn)).2.2.1
 have HVO':Hid (vld ⟨neg',l',x'⟩=true->m≠0->val l' % 2=1):=fun hv hn=>(zAU hv ((zAL h').2 hn)).2.2.1
 have HVL:Hid (vld ⟨neg,l,x⟩=true->n≠0->zAT (val l)<=4096):=fun hv hn=>(zAU hv ((zAL h).2 hn)).2.2.2.1
 have HVL':Hid (vld ⟨neg',l',x'⟩=true->m≠0->zAT (val l')<=4096):=fun hv hn=>(zAU hv ((zAL h').2 hn)).2.2.2.1
 have HZ:Hid (n=0->val l=0):=fun hn=>by rw [h.empty hn];rfl
 have HZ':Hid (m=0->val l' = 0):=fun hn=>by rw [h'.empty hn];rfl
 obtain ⟨k1,k2,k3,k4,k5⟩:=zNO w 30 #[.bool neg,.slice A n c,.int .i64 x] #[.bool neg',.slice B m d,.int .i64 x'] #[.bool false,.slice none 0 0,.int .i64 0];have h1:=h.below k5;have h1':=h'.below k5;have HT:=Zh (ht.next k5);clear ht;generalize hv:vld ⟨neg,l,x⟩=v at *;generalize hv':vld ⟨neg',l',x'⟩=v' at *;have HV:=Zh hv;have HV':=Zh hv';clear hv hv';go_enter Tryz.func249,Tryz.ntmps249
 go_wp2_with fail
 generalize ((w.alloc (.cells #[.bool neg,.slice A n c,.int .i64 x] 30)).alloc (.cells #[.bool neg',.slice B m d,.int .i64 x'] 30)).alloc (.cells #[.bool false,.slice none 0 0,.int .i64 0] 30)=W0 at *;refine (zA4 neg A n c l x _ h1 (by omega)).mono ?_;rintro e w1 ⟨rfl,hb1⟩
 rw [HV.out];have j1:=k1.below hb1 (by omega);have j2:=k2.below hb1 (by omega);have j3:=k3.below hb1 (by omega);have hz1:w.heap.size+3<=w1.heap.size:=by have:=hb1.size;omega
 have h2:=h1.below hb1;have h2':=h1'.below hb1;have HT1:=Zh (HT.out.next hb1);have hbw:=zAA k5 hb1;obtain ⟨s0,s1,s2⟩:=j1.cells3;obtain ⟨t0,t1,t2⟩:=j2.cells3;obtain ⟨r0,r1,r2⟩:=j3.cells3;have f0:=j3.frozen 0;have f1:=j3.frozen 1;have f2:=j3.frozen 2;clear k1 k2 k3 k4 h1 h1' HT hb1;cases v
 ·have hr:r=(zAZ,1):=by rw [HA.out];simp
  subst hr;clear HA;go_wp2_with fail
  refine Yn (zBI Tryz.results249 rfl (j3.set3 _ _ _)) rfl ?_;exact ⟨none,0,0,rfl,SL.nil _,zAn.zero,zAG hbw (by omega) _ _ _⟩
 ·go_wp2_with fail
  refine (zA4 neg' B m d l' x' _ h2' (by omega)).mono ?_;rintro e w2 ⟨rfl,hb2⟩
  rw [HV'.out];have i1:=j1.below hb2 (by omega);have i2:=j2.below hb2 (by omega);have i3:=j3.below hb2 (by omega);have hz2:w.heap.size+3<=w2.heap.size:=by have:=hb2.size;omega
  have h3:=h2.below hb2;have h3':=h2'.below hb2;have HT2:=Zh (HT1.out.next hb2);have hbw2:=zAA hbw hb2;clear s0 s1 s2 t0 t1 t2 r0 r1 r2 f0 f1 f2 j1 j2 j3 h2 h2' HT1 hb2 hbw hz1;obtain ⟨s0,s1,s2⟩:=i1.cells3;obtain ⟨t0,t1,t2⟩:=i2.cells3;obtain ⟨r0,r1,r2⟩:=i3.cells3;have f0:=i3.frozen 0;have f1:=i3.frozen 1;have f2:=i3.frozen 2;cases v'
  ·have hr:r=(zAZ,1):=by rw [HA.out];simp
   subst hr;clear HA;go_wp2_with fail
   refine Yn (zBI Tryz.results249 rfl (i3.set3 _ _ _)) rfl ?_;exact ⟨none,0,0,rfl,SL.nil _,zAn.zero,zAG hbw2 (by omega) _ _ _⟩
  ·have hr:r=zAu (neg != neg') (val l*val l') (x+x'):=by rw [HA.out];simp
   have HR:=Zh hr;clear HA hr;obtain ⟨hn256,hx1,hx2⟩:=HVB.out (by simp);obtain ⟨hm256,hy1,hy2⟩:=HVB'.out (by simp);by_cases hn0:n=0
   ·have hr:r=(zAZ,0):=by rw [HR.out,HZ.out hn0,Nat.zero_mul];rfl
    subst hr;subst hn0;clear HR;go_wp2_with fail
    refine Yn (zBI Tryz.results249 rfl (i3.set3 _ _ _)) rfl ?_;exact ⟨none,0,0,rfl,SL.nil _,zAn.zero,zAG hbw2 (by omega) _ _ _⟩
   have hn0':((n:Int) == 0)=false:=by simp;omega
   by_cases hm0:m=0
   ·have hr:r=(zAZ,0):=by rw [HR.out,HZ'.out hm0,Nat.mul_zero];rfl
    subst hr;subst hm0;clear HR;go_wp2_with fail
    refine Yn (zBI Tryz.results249 rfl (i3.set3 _ _ _)) rfl ?_;exact ⟨none,0,0,rfl,SL.nil _,zAn.zero,zAG hbw2 (by omega) _ _ _⟩
   have hm0':((m:Int) == 0)=false:=by simp;omega
   have HO1:=Zh (HVO.out (by simp) hn0);have HO2:=Zh (HVO'.out (by simp) hm0);have HBM:=Zh (zPt (v:=val l) (u:=val l') (by have:=HO1.out;omega) (by have:=HO2.out;omega));have b1:=HVL.out (by simp) hn0;have b2:=HVL'.out (by simp) hm0;generalize hN:zAT (val l)=N at *;generalize hM:zAT (val l')=M at *;have HN:=Zh hN;have HM:=Zh hM;clear hN hM;have hq1:IntKind.i64.wrap ((N:Int)+(M:Int))=(N:Int)+(M:Int):=IntWalk.i64_in _ (by omega);have hq2:IntKind.i64.wrap ((N:Int)+(M:Int) - 1)=(N:Int)+(M:Int) - 1:=IntWalk.i64_in _ (by omega);have HQ:Hid (∀q,Calls Tryz.prog 76 #[.slice A n c] (w2.drewN q) fun e w'=>e=.returned (.int .i64 (N:Int))/\w' = w2.drewN q):=fun q=>by
    have:=zCF A n c l _ (h3.drewN q) (by omega);rw [HN.out] at this;exact this.mono (fun e w' ⟨he,hw⟩=>⟨he,hw.symm⟩)
   have HQ':Hid (∀q,Calls Tryz.prog 76 #[.slice B m d] (w2.drewN q) fun e w'=>e=.returned (.int .i64 (M:Int))/\w' = w2.drewN q):=fun q=>by
    have:=zCF B m d l' _ (h3'.drewN q) (by omega);rw [HM.out] at this;exact this.mono (fun e w' ⟨he,hw⟩=>⟨he,hw.symm⟩)
   by_cases hbig:4096<(N:Int)+(M:Int) - 1
   ·have hr:r=(zAZ,9):=by
     rw [HR.out];refine zDi _ _ _ (by rw [Nat.mul_mod,HO1.out,HO2.out]) ?_;have:=HBM.out.1;omega
    subst hr;have hdec:decide (4096<(N:Int)+(M:Int) - 1)=true:=Yf hbig;clear HR HBM;go_wp2_with fail
    go_quiet ((go_at_call 76;first | (with_reducible exact Calls.quiet_of_same (HQ.out _)) | (with_reducible exact Calls.quiet_of_same (HQ'.out _))))
    go_wp2_with fail
    refine Yn (zBI Tryz.results249 rfl ((i3.drewN _).set3 _ _ _)) rfl ?_;exact ⟨none,0,0,rfl,SL.nil _,zAn.zero,zAG (zAR hbw2 _) (by omega) _ _ _⟩
   ·have hdec:decide (4096<(N:Int)+(M:Int) - 1)=false:=Ye hbig
    have hlen:(zAa (val l*val l')).length<=256:=Yq (zAP _ 129 (by have:=HBM.out.2;omega)) (by omega);have HLE:=Zh hlen;clear HBM hlen;go_wp2_with fail
    go_quiet ((go_at_call 76;first | (with_reducible exact Calls.quiet_of_same (HQ.out _)) | (with_reducible exact Calls.quiet_of_same (HQ'.out _))))
    have h5:=h3.drewN nq;have h5':=h3'.drewN nq;have HT5:Hid (zBx (w2.drewN nq)):=HT2.out;have m1:=i1.drewN nq;have m2:=i2.drewN nq;have m3:=i3.drewN nq;have hbw5:=zAR hbw2 nq;clear i1 i2 i3 h3 h3' HT2 hbw2 HQ HQ' hq1 hq2 s0 s1 s2 t0 t1 t2 r0 r1 r2 f0 f1 f2;have hz5:w.heap.size+3<=(w2.drewN nq).heap.size:=hz2;clear hz2;generalize w2.drewN nq=W5 at *;obtain ⟨s0,s1,s2⟩:=m1.cells3;obtain ⟨t0,t1,t2⟩:=m2.cells3;go_wp2_with fail
    refine (zRA A B n c m d l l' _ h5 h5' hn256 hm256 HLE.out).mono ?_;rintro e w6 ⟨A6,n6,c6,rfl,hs6,hf6,hb6⟩
    have p1:=m1.below hb6 m1.lt;have p2:=m2.below hb6 m2.lt;have p3:=m3.below hb6 m3.lt;have hbw6:=zAA hbw5 hb6;have HT6:=Zh (HT5.out.next hb6);have hz6:w.heap.size+3<=w6.heap.size:=p3.lt;have hn6:n6<=256:=by rw [<- hs6.len];exact HLE.out
    clear m1 m2 m3 s0 s1 s2 t0 t1 t2 HT5 hbw5 h5 h5' hb6 hf6;obtain ⟨s0,s1,s2⟩:=p1.cells3;obtain ⟨t0,t1,t2⟩:=p2.cells3;have hw:IntKind.i64.wrap (x+x')=x+x':=IntWalk.i64_in _ (by omega);go_wp2_with fail
    refine (zAi (neg != neg') A6 n6 c6 (zAa (val l*val l')) (x+x') _ hs6 hn6 (by omega) (by omega) HT6.out).mono ?_;rw [zAH];rintro e w7 ⟨A1,n1,c1,rfl,hs1,hf1,hb7⟩
    have hn1:n1<=256:=by
     rw [<- hs1.len];unfold zAN
     split
     ·simp [zAZ]
     ·exact zCR (zAk (val l*val l')) HLE.out (by rw [zAH];exact Nat.div_le_self _ _)
    have HD:Hid (r=if inR (val (zAN (neg != neg') (val l*val l') (x+x')).l) (zAN (neg != neg') (val l*val l') (x+x')).e=true then (zAN (neg != neg') (val l*val l') (x+x'),0) else (zAZ,9)):=HR.out;generalize hd:zAN (neg != neg') (val l*val l') (x+x')=d7 at *;clear hd HR;have hbw7:=zAA hbw6 hb7;have q3:=p3.below hb7 p3.lt;have hz7:w.heap.size+3<=w7.heap.size:=q3.lt;clear hw s0 s1 s2 t0 t1 t2;by_cases hr:inR (val d7.l) d7.e=true
    ·have hrr:r=(d7,0):=by rw [HD.out,if_pos hr]
     subst hrr;go_wp2_with fail
     refine (zBf d7.neg A1 n1 c1 d7.l d7.e _ hs1 (by omega) hr).mono ?_;rintro e w8 ⟨rfl,hb8⟩
     clear hr HD;have g3:=q3.below hb8 q3.lt;obtain ⟨v0,v1,v2⟩:=g3.cells3;have e0:=g3.frozen 0;have e1:=g3.frozen 1;have e2:=g3.frozen 2;have hf1':zAn (w.heap.size+3) A1 n1:=hf1.mono hz6;go_wp2_with fail
     refine Yn (zBI Tryz.results249 rfl (g3.set3 _ _ _)) rfl ?_;exact ⟨A1,n1,c1,rfl,((((hs1.below hb8).far hf1' (by omega) 0 _).far hf1' (by omega) 1 _).far hf1' (by omega) 2 _),hf1.mono (by omega),zAG (zAA hbw7 hb8) (by omega) _ _ _⟩
    ·have hrr:r=(zAZ,9):=by rw [HD.out,if_neg hr]
     subst hrr;go_wp2_with fail
     refine (zBJ d7.neg A1 n1 c1 d7.l d7.e _ hs1 (by omega) (by simpa using hr)).mono ?_;rintro e w8 ⟨rfl,hb8⟩
     clear hr HD;have g3:=q3.below hb8 q3.lt;obtain ⟨v0,v1,v2⟩:=g3.cells3;have e0:=g3.frozen 0;have e1:=g3.frozen 1;have e2:=g3.frozen 2;go_wp2_with fail
     refine Yn (zBI Tryz.results249 rfl (g3.set3 _ _ _)) rfl ?_;exact ⟨none,0,0,rfl,SL.nil _,zAn.zero,zAG (zAA hbw7 hb8) (by omega) _ _ _⟩
end Go.Proofs.YtngjhigieajkmaaGreatDoor
end
