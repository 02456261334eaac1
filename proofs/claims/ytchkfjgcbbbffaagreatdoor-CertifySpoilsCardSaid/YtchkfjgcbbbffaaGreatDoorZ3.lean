/- Bundle 3: what the law's walk stands on: D3b, D3c, D3d, D4, D5, L1, KitA, E2, Pair. -/
import Derived.KernelRfl
import Derived.Lib.Builder
import Derived.Lib.AppendStr
import Derived.Lib.UnsafeStr
import Derived.Laws.Externs
import Derived.Test.YtchkfjgcbbbffaaGreatDoorCards
import Derived.Test.YtchkfjgcbbbffaaGreatDoorTie
import Derived.ProofKit
import Derived.OpenShut
import Derived.Deep.DeepHandedRow
import Derived.Lib.LaidTab
import Derived.Lib.SmallJoins
import Derived.Test.YtchkfjgcbbbffaaGreatDoorZ1
import Derived.Test.YtchkfjgcbbbffaaGreatDoorZ2
set_option maxRecDepth 100000
set_option maxHeartbeats 20000000
set_option linter.all false
noncomputable section
namespace Go.Proofs.YtchkfjgcbbbffaaGreatDoor
open Go.RowKit Pl Go.Shelf
theorem zNH (neg neg':Bool) (A B:Option Addr) (n c m d:Nat) (l l':List Nat) (x x' mn:Int) (w:World) (h:SL w A n c l) (h':SL w B m d l') (ht:zBx w)
  (hv:vld ⟨neg,l,x⟩=true) (hv':vld ⟨neg',l',x'⟩=true) (hne:n≠0) (hne':m≠0) (hmn:min x x' = mn) (he:4097<max ((zAT (val l):Int)+x) ((zAT (val l'):Int)+x') - mn) (he1:¬ 1<((zAT (val l):Int)+x) - ((zAT (val l'):Int)+x')) (he2:¬ 1<((zAT (val l'):Int)+x') - ((zAT (val l):Int)+x)) (hsg:neg=neg') :
  Calls Tryz.prog 110 #[.agg #[.bool neg,.slice A n c,.int .i64 x],.agg #[.bool neg',.slice B m d,.int .i64 x']] w (zJI (zDB neg neg' (val l*2^(x - mn).toNat) (val l' * 2^(x' - mn).toNat) mn).1 (zDB neg neg' (val l*2^(x - mn).toNat) (val l' * 2^(x' - mn).toNat) mn).2 w):=by
 have HSG:=Zh hsg;clear hsg;obtain ⟨b1,b2,b3,b4,b5,b6,b7⟩:=zAU hv ((zAL h).2 hne);obtain ⟨b1',b2',b3',b4',b5',b6',b7'⟩:=zAU hv' ((zAL h').2 hne');have hn256:n<=256:=by rw [<- h.len];exact b1
 have hm256:m<=256:=by rw [<- h'.len];exact b1'
 have B2:=Zh b2;have B2':=Zh b2';have B3:=Zh b3;have B3':=Zh b3';have TT:Hid (zCU ⟨neg,l,x⟩=(zAT (val l):Int)+x):=by unfold Hid zCU;rw [if_pos ⟨hv,(zAL h).2 hne⟩]
 have TT':Hid (zCU ⟨neg',l',x'⟩=(zAT (val l'):Int)+x'):=by unfold Hid zCU;rw [if_pos ⟨hv',(zAL h').2 hne'⟩]
 have n0:((n:Int) == 0)=false:=by simp;omega
 have m0:((m:Int) == 0)=false:=by simp;omega
 have hm1:mn<=x:=by omega
 have hm2:mn<=x':=by omega
 have hm3:mn=x\/mn=x':=by omega
 simp only at b4 b5 b6 b7 b4' b5' b6' b7';have hm4:-16384<=mn:=by omega
 have HM3:=Zh hm3;have HMN:=Zh hmn;have HV:=Zh hv;have HV':=Zh hv';clear b1 b1' b2 b2' b3 b3' hmn hv hv' hm3;go_enter Tryz.func110,Tryz.ntmps110
 go_wp2_with fail
 rw [HMN.out];obtain ⟨k1,k2,k3,k4,k5⟩:=zNO w 41 #[.bool neg,.slice A n c,.int .i64 x] #[.bool neg',.slice B m d,.int .i64 x'] #[.bool false,.slice none 0 0,.int .i64 0];have h1:=h.below k5;have h1':=h'.below k5;have HT:=Zh (ht.next k5);have HG0:=Zh ht.lt;clear ht;generalize ((w.alloc (.cells #[.bool neg,.slice A n c,.int .i64 x] 41)).alloc (.cells #[.bool neg',.slice B m d,.int .i64 x'] 41)).alloc (.cells #[.bool false,.slice none 0 0,.int .i64 0] 41)=W0 at *;obtain ⟨s0,s1,s2⟩:=k1.cells3;obtain ⟨t0,t1,t2⟩:=k2.cells3;have hz:w.heap.size+3<=W0.heap.size:=by omega
 clear k4
 go_region_held3 (fun W=>W.cell? ⟨w.heap.size,0,none⟩=some (.bool neg)/\W.cell? ⟨w.heap.size,1,none⟩=some (.slice A n c)/\W.cell? ⟨w.heap.size,2,none⟩=some (.int .i64 x)/\W.cell? ⟨w.heap.size+1,0,none⟩=some (.bool neg')/\W.cell? ⟨w.heap.size+1,1,none⟩=some (.slice B m d)/\W.cell? ⟨w.heap.size+1,2,none⟩=some (.int .i64 x'))
  (first | exact ⟨s0,s1,s2,t0,t1,t2⟩ | exact zCn hbA (by simp;omega) (by simp;omega) ⟨s0,s1,s2,t0,t1,t2⟩ | exact zCn (zAA hbA hbB) (by simp;omega) (by simp;omega) ⟨s0,s1,s2,t0,t1,t2⟩)
  (first
   | (go_at_call 126; (with_reducible refine (zBB neg A n c l x _ h1.drew (by omega)).mono ?_);rintro e wA ⟨rfl,hbA⟩)
   | (go_at_call 126; (with_reducible refine (zBB neg' B m d l' x' _ (h1'.drew.below hbA) (by omega)).mono ?_);rintro e wB ⟨rfl,hbB⟩))
 rw [TT.out,TT'.out];have hbAB:=zAA hbA hbB;have k1B:=k1.drew.below hbAB (by simp;omega);have k2B:=k2.drew.below hbAB (by simp;omega);have k3B:=k3.drew.below hbAB (by simp;omega);have hbw:Below w.heap.size w wB:=zAA (zAR k5 1) hbAB;have h2:=h1.drew.below hbAB;have h2':=h1'.drew.below hbAB;have HTB:=Zh ((show zBx W0.drew from HT.out).next hbAB);have hzB:w.heap.size+3<=wB.heap.size:=by have:=hbAB.size;simp at this;omega
 clear k1 k2 k3 k5 h1 h1' s0 s1 s2 t0 t1 t2 HT hbA hbB hbAB hz TT TT' HV HV';obtain ⟨s0,s1,s2⟩:=k1B.cells3;obtain ⟨t0,t1,t2⟩:=k2B.cells3;obtain ⟨r0,r1,r2⟩:=k3B.cells3;have f0:=k3B.frozen 0;have f1:=k3B.frozen 1;have f2:=k3B.frozen 2;have HN1:Hid (zAT (val l)=zAT (val l)):=rfl;generalize hN1:zAT (val l)=N1 at *;generalize hN2:zAT (val l')=N2 at *;have HBN1:=Zh hN1;have HBN2:=Zh hN2;clear hN1 hN2 HN1;have hmx1:max ((N1:Int)+x) ((N2:Int)+x')<=40000:=by omega
 have hmx2:-40000<=max ((N1:Int)+x) ((N2:Int)+x'):=by omega
 have hd1:decide (4097<max ((N1:Int)+x) ((N2:Int)+x') - mn)=true:=Yf (by omega);have q1e:∃q1:Nat,x - mn=(q1:Int):=⟨(x - mn).toNat,by omega⟩;have q2e:∃q2:Nat,x' - mn=(q2:Int):=⟨(x' - mn).toNat,by omega⟩;obtain ⟨q1,hq1⟩:=q1e;obtain ⟨q2,hq2⟩:=q2e;have hm3:=HM3.out;have hT1:N1+q1<=4097:=by omega
 have hT2:N2+q2<=4097:=by omega
 have hq1b:q1<=65536:=by omega
 have hq2b:q2<=65536:=by omega
 have P1:0<val l:=by have:=B3.out;omega
 have P2:0<val l':=by have:=B3'.out;omega
 have L1:Hid (zAT (val l*2^q1)=N1+q1):=by unfold Hid;rw [zAc _ _ P1,HBN1.out]
 have L2:Hid (zAT (val l' * 2^q2)=N2+q2):=by unfold Hid;rw [zAc _ _ P2,HBN2.out]
 have D1:Hid ((zAa (val l*2^q1)).length<=256):=Yq (zAP _ 129 (by rw [L1.out];omega)) (by omega);have D2:Hid ((zAa (val l' * 2^q2)).length<=256):=Yq (zAP _ 129 (by rw [L2.out];omega)) (by omega);have W1:IntKind.i64.wrap (x - mn)=(q1:Int):=by rw [hq1];exact IntWalk.i64_in _ (by omega)
 have W2:IntKind.i64.wrap (x' - mn)=(q2:Int):=by rw [hq2];exact IntWalk.i64_in _ (by omega)
 have E1:Hid ((x - mn).toNat=q1):=by unfold Hid;omega
 have E2:Hid ((x' - mn).toNat=q2):=by unfold Hid;omega
 clear hm3 hq1 hq2 P1 P2;go_wp2_with fail
 go_region_held3 (fun W=>W.cell? ⟨w.heap.size,1,none⟩=some (.slice A n c)/\W.cell? ⟨w.heap.size,2,none⟩=some (.int .i64 x)/\W.cell? ⟨w.heap.size+1,1,none⟩=some (.slice B m d)/\W.cell? ⟨w.heap.size+1,2,none⟩=some (.int .i64 x'))
  (first | exact ⟨s1,s2,t1,t2⟩ | exact zEf hbC (by simp;omega) (by simp;omega) ⟨s1,s2,t1,t2⟩ | exact zEf (zAA hbC hbD) (by simp;omega) (by simp;omega) ⟨s1,s2,t1,t2⟩)
  (first
   | (go_at_call 128; (with_reducible refine (zAs A n c q1 _ l _ h2.drew hn256 rfl hq1b D1.out).mono ?_);rintro e wC ⟨AC,nC,cC,rfl,hsC,hfC,hbC⟩)
   | (go_at_call 128; (with_reducible refine (zAs B m d q2 _ l' _ (h2'.drew.below hbC) hm256 rfl hq2b D2.out).mono ?_);rintro e wD ⟨AD,nD,cD,rfl,hsD,hfD,hbD⟩))
 have hbCD:=zAA hbC hbD;have k1D:=k1B.drew.below hbCD (by simp;omega);have k2D:=k2B.drew.below hbCD (by simp;omega);have k3D:=k3B.drew.below hbCD (by simp;omega);have hbwD:Below w.heap.size w wD:=zAA (zAR hbw 1) hbCD;have hsC2:=hsC.below hbD;have HTD:=Zh ((show zBx wB.drew from HTB.out).next hbCD);have hzD:w.heap.size+3<=wD.heap.size:=by have:=hbCD.size;simp at this;omega
 have hsz1:=hbC.size;simp at hsz1;have FC:Hid (zAn (w.heap.size+1) AC nC):=hfC.mono (by simp;omega);have FD:Hid (zAn (w.heap.size+1) AD nD):=hfD.mono (by omega);clear hsz1;have hnC:nC<=129:=by rw [<- hsC.len];exact zAP _ 129 (by rw [L1.out];omega)
 have hnD:nD<=129:=by rw [<- hsD.len];exact zAP _ 129 (by rw [L2.out];omega)
 clear k1B k2B k3B h2 h2' HTB hbC hbD hbCD hsC hfC hfD hzB W1 W2 D1 D2 s0 s1 s2 t0 t1 t2 r0 r1 r2 f0 f1 f2 hbw;obtain ⟨s0,s1,s2⟩:=k1D.cells3;obtain ⟨t0,t1,t2⟩:=k2D.cells3;obtain ⟨r0,r1,r2⟩:=k3D.cells3;have f0:=k3D.frozen 0;have f1:=k3D.frozen 1;have f2:=k3D.frozen 2;have hsb:(neg == neg')=true:=by rw [HSG.out];simp
 have HLE:Hid ((zAa (val l*2^q1+val l' * 2^q2)).length<=256):=Yq (zAP _ 129 (Yq (zGV (k:=4097) (by rw [L1.out];exact hT1) (by rw [L2.out];exact hT2)) (by omega))) (by omega);go_wp2_with fail
 refine (zNT AC AD nC cC nD cD _ _ _ hsC2 hsD (by omega) (by omega) (by rw [zAH,zAH];exact HLE.out)).mono ?_;rintro e wE ⟨AE,nE,cE,rfl,hsE,hfE,hbE⟩
 rw [zAH,zAH] at hsE;have hbwE:=zAA hbwD hbE;have k1E:=k1D.below hbE (by omega);have k3E:=k3D.below hbE (by omega);have HTE:=Zh (HTD.out.next hbE);have hzE:w.heap.size+3<=wE.heap.size:=by have:=hbE.size;omega
 have SV:Hid (zDB neg neg' (val l*2^(x - mn).toNat) (val l' * 2^(x' - mn).toNat) mn=zAu neg (val l*2^q1+val l' * 2^q2) mn):=by unfold Hid;rw [E1.out,E2.out];rw [zDB,if_pos HSG.out]
 generalize zDB neg neg' (val l*2^(x - mn).toNat) (val l' * 2^(x' - mn).toNat) mn=r at *;generalize val l*2^q1+val l' * 2^q2=V at *;clear k1D k2D k3D HTD hzD hsC2 hsD hbE s0 s1 s2 t0 t1 t2 r0 r1 r2 f0 f1 f2 hbwD;obtain ⟨s0,s1,s2⟩:=k1E.cells3;obtain ⟨r0,r1,r2⟩:=k3E.cells3;have hnE:nE<=256:=by rw [<- hsE.len];exact HLE.out
 go_wp2_with fail
 refine (zAi neg AE nE cE _ mn _ hsE hnE (by omega) (by omega) HTE.out).mono ?_;rintro e wF ⟨AF,nF,cF,rfl,hsF,hfF,hbF⟩
 rw [zAH] at hsF ⊢;have hnF:nF<=256:=by
  rw [<- hsF.len];unfold zAN
  split
  ·simp [zAZ]
  ·exact zCR (zAk V) HLE.out (by rw [zAH];exact Nat.div_le_self _ _)
 have HD:Hid (zAu neg V mn=if inR (val (zAN neg V mn).l) (zAN neg V mn).e=true then (zAN neg V mn,0) else (zAZ,9)):=rfl;have hrd:r=if inR (val (zAN neg V mn).l) (zAN neg V mn).e=true then (zAN neg V mn,0) else (zAZ,9):=by rw [SV.out,HD.out]
 have HRD:=Zh hrd;clear hrd HD SV;generalize zAN neg V mn=dd at *;by_cases hr:inR (val dd.l) dd.e=true
 ·have hrr:r=(dd,0):=by rw [HRD.out,if_pos hr]
  subst hrr;go_wp2_with fail
  refine (zBf dd.neg AF nF cF dd.l dd.e _ hsF (by omega) hr).mono ?_;rintro e wG ⟨rfl,hbG⟩
  have hbFG:=zAA hbF hbG;have k3G:=k3E.below hbFG (by omega);obtain ⟨v0,v1,v2⟩:=k3G.cells3;have g0:=k3G.frozen 0;have g1:=k3G.frozen 1;have g2:=k3G.frozen 2;have hzG:w.heap.size+3<=wG.heap.size:=by have:=hbFG.size;omega
  clear hr HRD;go_wp2_with fail
  refine Yn (zBI Tryz.results110 rfl (k3G.set3 _ _ _)) rfl ?_;have hsG:=hsF.below hbG;have hlt:w.heap.size+1+1<wE.heap.size:=by omega
  exact ⟨AF,nF,cF,rfl,(((hsG.far hfF hlt 0 _).far hfF hlt 1 _).far hfF hlt 2 _),hfF.mono (by omega),zAG (zAA hbwE hbFG) (by omega) _ _ _⟩
 ·have hrr:r=(zAZ,9):=by rw [HRD.out,if_neg hr]
  subst hrr;go_wp2_with fail
  refine (zBJ dd.neg AF nF cF dd.l dd.e _ hsF (by omega) (by simpa using hr)).mono ?_;rintro e wG ⟨rfl,hbG⟩
  have hbFG:=zAA hbF hbG;have k3G:=k3E.below hbFG (by omega);obtain ⟨v0,v1,v2⟩:=k3G.cells3;have g0:=k3G.frozen 0;have g1:=k3G.frozen 1;have g2:=k3G.frozen 2;have hzG:w.heap.size+3<=wG.heap.size:=by have:=hbFG.size;omega
  clear hr HRD;go_wp2_with fail
  refine Yn (zBI Tryz.results110 rfl (k3G.set3 _ _ _)) rfl ?_;exact ⟨none,0,0,rfl,SL.nil _,zAn.zero,zAG (zAA hbwE hbFG) (by omega) _ _ _⟩
theorem zQx (neg neg':Bool) (A B:Option Addr) (n c m d:Nat) (l l':List Nat) (x x' mn:Int) (w:World) (h:SL w A n c l) (h':SL w B m d l') (ht:zBx w)
  (hv:vld ⟨neg,l,x⟩=true) (hv':vld ⟨neg',l',x'⟩=true) (hne:n≠0) (hne':m≠0) (hmn:min x x' = mn) (he:¬ 4097<max ((zAT (val l):Int)+x) ((zAT (val l'):Int)+x') - mn) (hsg:¬ neg=neg') (hpq:¬ (val l*2^(x - mn).toNat<val l' * 2^(x' - mn).toNat)) :
  Calls Tryz.prog 110 #[.agg #[.bool neg,.slice A n c,.int .i64 x],.agg #[.bool neg',.slice B m d,.int .i64 x']] w (zJI (zDB neg neg' (val l*2^(x - mn).toNat) (val l' * 2^(x' - mn).toNat) mn).1 (zDB neg neg' (val l*2^(x - mn).toNat) (val l' * 2^(x' - mn).toNat) mn).2 w):=by
 have HSG:=Zh hsg;clear hsg;obtain ⟨b1,b2,b3,b4,b5,b6,b7⟩:=zAU hv ((zAL h).2 hne);obtain ⟨b1',b2',b3',b4',b5',b6',b7'⟩:=zAU hv' ((zAL h').2 hne');have hn256:n<=256:=by rw [<- h.len];exact b1
 have hm256:m<=256:=by rw [<- h'.len];exact b1'
 have B2:=Zh b2;have B2':=Zh b2';have B3:=Zh b3;have B3':=Zh b3';have TT:Hid (zCU ⟨neg,l,x⟩=(zAT (val l):Int)+x):=by unfold Hid zCU;rw [if_pos ⟨hv,(zAL h).2 hne⟩]
 have TT':Hid (zCU ⟨neg',l',x'⟩=(zAT (val l'):Int)+x'):=by unfold Hid zCU;rw [if_pos ⟨hv',(zAL h').2 hne'⟩]
 have n0:((n:Int) == 0)=false:=by simp;omega
 have m0:((m:Int) == 0)=false:=by simp;omega
 have hm1:mn<=x:=by omega
 have hm2:mn<=x':=by omega
 have hm3:mn=x\/mn=x':=by omega
 simp only at b4 b5 b6 b7 b4' b5' b6' b7';have hm4:-16384<=mn:=by omega
 have HM3:=Zh hm3;have HMN:=Zh hmn;have HV:=Zh hv;have HV':=Zh hv';clear b1 b1' b2 b2' b3 b3' hmn hv hv' hm3;go_enter Tryz.func110,Tryz.ntmps110
 go_wp2_with fail
 rw [HMN.out];obtain ⟨k1,k2,k3,k4,k5⟩:=zNO w 41 #[.bool neg,.slice A n c,.int .i64 x] #[.bool neg',.slice B m d,.int .i64 x'] #[.bool false,.slice none 0 0,.int .i64 0];have h1:=h.below k5;have h1':=h'.below k5;have HT:=Zh (ht.next k5);have HG0:=Zh ht.lt;clear ht;generalize ((w.alloc (.cells #[.bool neg,.slice A n c,.int .i64 x] 41)).alloc (.cells #[.bool neg',.slice B m d,.int .i64 x'] 41)).alloc (.cells #[.bool false,.slice none 0 0,.int .i64 0] 41)=W0 at *;obtain ⟨s0,s1,s2⟩:=k1.cells3;obtain ⟨t0,t1,t2⟩:=k2.cells3;have hz:w.heap.size+3<=W0.heap.size:=by omega
 clear k4
 go_region_held3 (fun W=>W.cell? ⟨w.heap.size,0,none⟩=some (.bool neg)/\W.cell? ⟨w.heap.size,1,none⟩=some (.slice A n c)/\W.cell? ⟨w.heap.size,2,none⟩=some (.int .i64 x)/\W.cell? ⟨w.heap.size+1,0,none⟩=some (.bool neg')/\W.cell? ⟨w.heap.size+1,1,none⟩=some (.slice B m d)/\W.cell? ⟨w.heap.size+1,2,none⟩=some (.int .i64 x'))
  (first | exact ⟨s0,s1,s2,t0,t1,t2⟩ | exact zCn hbA (by simp;omega) (by simp;omega) ⟨s0,s1,s2,t0,t1,t2⟩ | exact zCn (zAA hbA hbB) (by simp;omega) (by simp;omega) ⟨s0,s1,s2,t0,t1,t2⟩)
  (first
   | (go_at_call 126; (with_reducible refine (zBB neg A n c l x _ h1.drew (by omega)).mono ?_);rintro e wA ⟨rfl,hbA⟩)
   | (go_at_call 126; (with_reducible refine (zBB neg' B m d l' x' _ (h1'.drew.below hbA) (by omega)).mono ?_);rintro e wB ⟨rfl,hbB⟩))
 rw [TT.out,TT'.out];have hbAB:=zAA hbA hbB;have k1B:=k1.drew.below hbAB (by simp;omega);have k2B:=k2.drew.below hbAB (by simp;omega);have k3B:=k3.drew.below hbAB (by simp;omega);have hbw:Below w.heap.size w wB:=zAA (zAR k5 1) hbAB;have h2:=h1.drew.below hbAB;have h2':=h1'.drew.below hbAB;have HTB:=Zh ((show zBx W0.drew from HT.out).next hbAB);have hzB:w.heap.size+3<=wB.heap.size:=by have:=hbAB.size;simp at this;omega
 clear k1 k2 k3 k5 h1 h1' s0 s1 s2 t0 t1 t2 HT hbA hbB hbAB hz TT TT' HV HV';obtain ⟨s0,s1,s2⟩:=k1B.cells3;obtain ⟨t0,t1,t2⟩:=k2B.cells3;obtain ⟨r0,r1,r2⟩:=k3B.cells3;have f0:=k3B.frozen 0;have f1:=k3B.frozen 1;have f2:=k3B.frozen 2;have HN1:Hid (zAT (val l)=zAT (val l)):=rfl;generalize hN1:zAT (val l)=N1 at *;generalize hN2:zAT (val l')=N2 at *;have HBN1:=Zh hN1;have HBN2:=Zh hN2;clear hN1 hN2 HN1;have hmx1:max ((N1:Int)+x) ((N2:Int)+x')<=40000:=by omega
 have hmx2:-40000<=max ((N1:Int)+x) ((N2:Int)+x'):=by omega
 have hd1:decide (4097<max ((N1:Int)+x) ((N2:Int)+x') - mn)=false:=Ye (by omega);have q1e:∃q1:Nat,x - mn=(q1:Int):=⟨(x - mn).toNat,by omega⟩;have q2e:∃q2:Nat,x' - mn=(q2:Int):=⟨(x' - mn).toNat,by omega⟩;obtain ⟨q1,hq1⟩:=q1e;obtain ⟨q2,hq2⟩:=q2e;have hm3:=HM3.out;have hT1:N1+q1<=4097:=by omega
 have hT2:N2+q2<=4097:=by omega
 have hq1b:q1<=65536:=by omega
 have hq2b:q2<=65536:=by omega
 have P1:0<val l:=by have:=B3.out;omega
 have P2:0<val l':=by have:=B3'.out;omega
 have L1:Hid (zAT (val l*2^q1)=N1+q1):=by unfold Hid;rw [zAc _ _ P1,HBN1.out]
 have L2:Hid (zAT (val l' * 2^q2)=N2+q2):=by unfold Hid;rw [zAc _ _ P2,HBN2.out]
 have D1:Hid ((zAa (val l*2^q1)).length<=256):=Yq (zAP _ 129 (by rw [L1.out];omega)) (by omega);have D2:Hid ((zAa (val l' * 2^q2)).length<=256):=Yq (zAP _ 129 (by rw [L2.out];omega)) (by omega);have W1:IntKind.i64.wrap (x - mn)=(q1:Int):=by rw [hq1];exact IntWalk.i64_in _ (by omega)
 have W2:IntKind.i64.wrap (x' - mn)=(q2:Int):=by rw [hq2];exact IntWalk.i64_in _ (by omega)
 have E1:Hid ((x - mn).toNat=q1):=by unfold Hid;omega
 have E2:Hid ((x' - mn).toNat=q2):=by unfold Hid;omega
 clear hm3 hq1 hq2 P1 P2;go_wp2_with fail
 go_region_held3 (fun W=>W.cell? ⟨w.heap.size,1,none⟩=some (.slice A n c)/\W.cell? ⟨w.heap.size,2,none⟩=some (.int .i64 x)/\W.cell? ⟨w.heap.size+1,1,none⟩=some (.slice B m d)/\W.cell? ⟨w.heap.size+1,2,none⟩=some (.int .i64 x'))
  (first | exact ⟨s1,s2,t1,t2⟩ | exact zEf hbC (by simp;omega) (by simp;omega) ⟨s1,s2,t1,t2⟩ | exact zEf (zAA hbC hbD) (by simp;omega) (by simp;omega) ⟨s1,s2,t1,t2⟩)
  (first
   | (go_at_call 128; (with_reducible refine (zAs A n c q1 _ l _ h2.drew hn256 rfl hq1b D1.out).mono ?_);rintro e wC ⟨AC,nC,cC,rfl,hsC,hfC,hbC⟩)
   | (go_at_call 128; (with_reducible refine (zAs B m d q2 _ l' _ (h2'.drew.below hbC) hm256 rfl hq2b D2.out).mono ?_);rintro e wD ⟨AD,nD,cD,rfl,hsD,hfD,hbD⟩))
 have hbCD:=zAA hbC hbD;have k1D:=k1B.drew.below hbCD (by simp;omega);have k2D:=k2B.drew.below hbCD (by simp;omega);have k3D:=k3B.drew.below hbCD (by simp;omega);have hbwD:Below w.heap.size w wD:=zAA (zAR hbw 1) hbCD;have hsC2:=hsC.below hbD;have HTD:=Zh ((show zBx wB.drew from HTB.out).next hbCD);have hzD:w.heap.size+3<=wD.heap.size:=by have:=hbCD.size;simp at this;omega
 have hsz1:=hbC.size;simp at hsz1;have FC:Hid (zAn (w.heap.size+1) AC nC):=hfC.mono (by simp;omega);have FD:Hid (zAn (w.heap.size+1) AD nD):=hfD.mono (by omega);clear hsz1;have hnC:nC<=129:=by rw [<- hsC.len];exact zAP _ 129 (by rw [L1.out];omega)
 have hnD:nD<=129:=by rw [<- hsD.len];exact zAP _ 129 (by rw [L2.out];omega)
 clear k1B k2B k3B h2 h2' HTB hbC hbD hbCD hsC hfC hfD hzB W1 W2 D1 D2 s0 s1 s2 t0 t1 t2 r0 r1 r2 f0 f1 f2 hbw;obtain ⟨s0,s1,s2⟩:=k1D.cells3;obtain ⟨t0,t1,t2⟩:=k2D.cells3;obtain ⟨r0,r1,r2⟩:=k3D.cells3;have f0:=k3D.frozen 0;have f1:=k3D.frozen 1;have f2:=k3D.frozen 2;have hsb:(neg == neg')=false:=by simp [HSG.out]
 have HPQ:=Zh hpq;clear hpq;go_wp2_with fail
 refine (zDN AC AD nC cC nD cD _ _ _ hsC2 hsD).mono ?_;rintro e wX ⟨rfl,qX,rfl⟩
 rw [zAH,zAH];have hcm:¬ zCT (val l*2^q1) (val l' * 2^q2)<0:=by
  unfold zCT;have:=HPQ.out;rw [E1.out,E2.out] at this;rw [if_neg this]
  split <;> omega
 generalize zCT (val l*2^q1) (val l' * 2^q2)=zc at *;have HLE:Hid ((zAa (val l*2^q1 - val l' * 2^q2)).length<=256):=by
  have:=zCR (v:=val l*2^q1 - val l' * 2^q2) (zAk (val l*2^q1)) (by rw [hsC2.len];omega) (by rw [zAH];omega);exact this
 go_wp2_with fail
 refine (zJO AC AD nC cC nD cD _ _ _ (hsC2.drewN qX) (hsD.drewN qX) (by omega) (by omega) (by have:=HPQ.out;rw [E1.out,E2.out] at this;rw [zAH,zAH];omega)).mono ?_;rintro e wE ⟨AE,nE,cE,rfl,hsE,hfE,hbE'⟩
 have hbE:Below wD.heap.size wD wE:=zAA (zAR (Yp _ _) qX) hbE';rw [zAH,zAH] at hsE;have hbwE:=zAA hbwD hbE;have k1E:=k1D.below hbE (by omega);have k3E:=k3D.below hbE (by omega);have HTE:=Zh (HTD.out.next hbE);have hzE:w.heap.size+3<=wE.heap.size:=by have:=hbE.size;omega
 have SV:Hid (zDB neg neg' (val l*2^(x - mn).toNat) (val l' * 2^(x' - mn).toNat) mn=zAu neg (val l*2^q1 - val l' * 2^q2) mn):=by unfold Hid;rw [E1.out,E2.out];have hp:=HPQ.out;rw [E1.out,E2.out] at hp;rw [zDB,if_neg HSG.out,if_neg hp]
 generalize zDB neg neg' (val l*2^(x - mn).toNat) (val l' * 2^(x' - mn).toNat) mn=r at *;generalize val l*2^q1 - val l' * 2^q2=V at *;clear k1D k2D k3D HTD hzD hsC2 hsD hbE s0 s1 s2 t0 t1 t2 r0 r1 r2 f0 f1 f2 hbwD;obtain ⟨s0,s1,s2⟩:=k1E.cells3;obtain ⟨r0,r1,r2⟩:=k3E.cells3;have hnE:nE<=256:=by rw [<- hsE.len];exact HLE.out
 go_wp2_with fail
 refine (zAi neg AE nE cE _ mn _ hsE hnE (by omega) (by omega) HTE.out).mono ?_;rintro e wF ⟨AF,nF,cF,rfl,hsF,hfF,hbF⟩
 rw [zAH] at hsF ⊢;have hnF:nF<=256:=by
  rw [<- hsF.len];unfold zAN
  split
  ·simp [zAZ]
  ·exact zCR (zAk V) HLE.out (by rw [zAH];exact Nat.div_le_self _ _)
 have HD:Hid (zAu neg V mn=if inR (val (zAN neg V mn).l) (zAN neg V mn).e=true then (zAN neg V mn,0) else (zAZ,9)):=rfl;have hrd:r=if inR (val (zAN neg V mn).l) (zAN neg V mn).e=true then (zAN neg V mn,0) else (zAZ,9):=by rw [SV.out,HD.out]
 have HRD:=Zh hrd;clear hrd HD SV;generalize zAN neg V mn=dd at *;by_cases hr:inR (val dd.l) dd.e=true
 ·have hrr:r=(dd,0):=by rw [HRD.out,if_pos hr]
  subst hrr;go_wp2_with fail
  refine (zBf dd.neg AF nF cF dd.l dd.e _ hsF (by omega) hr).mono ?_;rintro e wG ⟨rfl,hbG⟩
  have hbFG:=zAA hbF hbG;have k3G:=k3E.below hbFG (by omega);obtain ⟨v0,v1,v2⟩:=k3G.cells3;have g0:=k3G.frozen 0;have g1:=k3G.frozen 1;have g2:=k3G.frozen 2;have hzG:w.heap.size+3<=wG.heap.size:=by have:=hbFG.size;omega
  clear hr HRD;go_wp2_with fail
  refine Yn (zBI Tryz.results110 rfl (k3G.set3 _ _ _)) rfl ?_;have hsG:=hsF.below hbG;have hlt:w.heap.size+1+1<wE.heap.size:=by omega
  exact ⟨AF,nF,cF,rfl,(((hsG.far hfF hlt 0 _).far hfF hlt 1 _).far hfF hlt 2 _),hfF.mono (by omega),zAG (zAA hbwE hbFG) (by omega) _ _ _⟩
 ·have hrr:r=(zAZ,9):=by rw [HRD.out,if_neg hr]
  subst hrr;go_wp2_with fail
  refine (zBJ dd.neg AF nF cF dd.l dd.e _ hsF (by omega) (by simpa using hr)).mono ?_;rintro e wG ⟨rfl,hbG⟩
  have hbFG:=zAA hbF hbG;have k3G:=k3E.below hbFG (by omega);obtain ⟨v0,v1,v2⟩:=k3G.cells3;have g0:=k3G.frozen 0;have g1:=k3G.frozen 1;have g2:=k3G.frozen 2;have hzG:w.heap.size+3<=wG.heap.size:=by have:=hbFG.size;omega
  clear hr HRD;go_wp2_with fail
  refine Yn (zBI Tryz.results110 rfl (k3G.set3 _ _ _)) rfl ?_;exact ⟨none,0,0,rfl,SL.nil _,zAn.zero,zAG (zAA hbwE hbFG) (by omega) _ _ _⟩
theorem zQy (neg neg':Bool) (A B:Option Addr) (n c m d:Nat) (l l':List Nat) (x x' mn:Int) (w:World) (h:SL w A n c l) (h':SL w B m d l') (ht:zBx w)
  (hv:vld ⟨neg,l,x⟩=true) (hv':vld ⟨neg',l',x'⟩=true) (hne:n≠0) (hne':m≠0) (hmn:min x x' = mn) (he:4097<max ((zAT (val l):Int)+x) ((zAT (val l'):Int)+x') - mn) (he1:¬ 1<((zAT (val l):Int)+x) - ((zAT (val l'):Int)+x')) (he2:¬ 1<((zAT (val l'):Int)+x') - ((zAT (val l):Int)+x)) (hsg:¬ neg=neg') (hpq:¬ (val l*2^(x - mn).toNat<val l' * 2^(x' - mn).toNat)) :
  Calls Tryz.prog 110 #[.agg #[.bool neg,.slice A n c,.int .i64 x],.agg #[.bool neg',.slice B m d,.int .i64 x']] w (zJI (zDB neg neg' (val l*2^(x - mn).toNat) (val l' * 2^(x' - mn).toNat) mn).1 (zDB neg neg' (val l*2^(x - mn).toNat) (val l' * 2^(x' - mn).toNat) mn).2 w):=by
 have HSG:=Zh hsg;clear hsg;obtain ⟨b1,b2,b3,b4,b5,b6,b7⟩:=zAU hv ((zAL h).2 hne);obtain ⟨b1',b2',b3',b4',b5',b6',b7'⟩:=zAU hv' ((zAL h').2 hne');have hn256:n<=256:=by rw [<- h.len];exact b1
 have hm256:m<=256:=by rw [<- h'.len];exact b1'
 have B2:=Zh b2;have B2':=Zh b2';have B3:=Zh b3;have B3':=Zh b3';have TT:Hid (zCU ⟨neg,l,x⟩=(zAT (val l):Int)+x):=by unfold Hid zCU;rw [if_pos ⟨hv,(zAL h).2 hne⟩]
 have TT':Hid (zCU ⟨neg',l',x'⟩=(zAT (val l'):Int)+x'):=by unfold Hid zCU;rw [if_pos ⟨hv',(zAL h').2 hne'⟩]
 have n0:((n:Int) == 0)=false:=by simp;omega
 have m0:((m:Int) == 0)=false:=by simp;omega
 have hm1:mn<=x:=by omega
 have hm2:mn<=x':=by omega
 have hm3:mn=x\/mn=x':=by omega
 simp only at b4 b5 b6 b7 b4' b5' b6' b7';have hm4:-16384<=mn:=by omega
 have HM3:=Zh hm3;have HMN:=Zh hmn;have HV:=Zh hv;have HV':=Zh hv';clear b1 b1' b2 b2' b3 b3' hmn hv hv' hm3;go_enter Tryz.func110,Tryz.ntmps110
 go_wp2_with fail
 rw [HMN.out];obtain ⟨k1,k2,k3,k4,k5⟩:=zNO w 41 #[.bool neg,.slice A n c,.int .i64 x] #[.bool neg',.slice B m d,.int .i64 x'] #[.bool false,.slice none 0 0,.int .i64 0];have h1:=h.below k5;have h1':=h'.below k5;have HT:=Zh (ht.next k5);have HG0:=Zh ht.lt;clear ht;generalize ((w.alloc (.cells #[.bool neg,.slice A n c,.int .i64 x] 41)).alloc (.cells #[.bool neg',.slice B m d,.int .i64 x'] 41)).alloc (.cells #[.bool false,.slice none 0 0,.int .i64 0] 41)=W0 at *;obtain ⟨s0,s1,s2⟩:=k1.cells3;obtain ⟨t0,t1,t2⟩:=k2.cells3;have hz:w.heap.size+3<=W0.heap.size:=by omega
 clear k4
 go_region_held3 (fun W=>W.cell? ⟨w.heap.size,0,none⟩=some (.bool neg)/\W.cell? ⟨w.heap.size,1,none⟩=some (.slice A n c)/\W.cell? ⟨w.heap.size,2,none⟩=some (.int .i64 x)/\W.cell? ⟨w.heap.size+1,0,none⟩=some (.bool neg')/\W.cell? ⟨w.heap.size+1,1,none⟩=some (.slice B m d)/\W.cell? ⟨w.heap.size+1,2,none⟩=some (.int .i64 x'))
  (first | exact ⟨s0,s1,s2,t0,t1,t2⟩ | exact zCn hbA (by simp;omega) (by simp;omega) ⟨s0,s1,s2,t0,t1,t2⟩ | exact zCn (zAA hbA hbB) (by simp;omega) (by simp;omega) ⟨s0,s1,s2,t0,t1,t2⟩)
  (first
   | (go_at_call 126; (with_reducible refine (zBB neg A n c l x _ h1.drew (by omega)).mono ?_);rintro e wA ⟨rfl,hbA⟩)
   | (go_at_call 126; (with_reducible refine (zBB neg' B m d l' x' _ (h1'.drew.below hbA) (by omega)).mono ?_);rintro e wB ⟨rfl,hbB⟩))
 rw [TT.out,TT'.out];have hbAB:=zAA hbA hbB;have k1B:=k1.drew.below hbAB (by simp;omega);have k2B:=k2.drew.below hbAB (by simp;omega);have k3B:=k3.drew.below hbAB (by simp;omega);have hbw:Below w.heap.size w wB:=zAA (zAR k5 1) hbAB;have h2:=h1.drew.below hbAB;have h2':=h1'.drew.below hbAB;have HTB:=Zh ((show zBx W0.drew from HT.out).next hbAB);have hzB:w.heap.size+3<=wB.heap.size:=by have:=hbAB.size;simp at this;omega
 clear k1 k2 k3 k5 h1 h1' s0 s1 s2 t0 t1 t2 HT hbA hbB hbAB hz TT TT' HV HV';obtain ⟨s0,s1,s2⟩:=k1B.cells3;obtain ⟨t0,t1,t2⟩:=k2B.cells3;obtain ⟨r0,r1,r2⟩:=k3B.cells3;have f0:=k3B.frozen 0;have f1:=k3B.frozen 1;have f2:=k3B.frozen 2;have HN1:Hid (zAT (val l)=zAT (val l)):=rfl;generalize hN1:zAT (val l)=N1 at *;generalize hN2:zAT (val l')=N2 at *;have HBN1:=Zh hN1;have HBN2:=Zh hN2;clear hN1 hN2 HN1;have hmx1:max ((N1:Int)+x) ((N2:Int)+x')<=40000:=by omega
 have hmx2:-40000<=max ((N1:Int)+x) ((N2:Int)+x'):=by omega
 have hd1:decide (4097<max ((N1:Int)+x) ((N2:Int)+x') - mn)=true:=Yf (by omega);have q1e:∃q1:Nat,x - mn=(q1:Int):=⟨(x - mn).toNat,by omega⟩;have q2e:∃q2:Nat,x' - mn=(q2:Int):=⟨(x' - mn).toNat,by omega⟩;obtain ⟨q1,hq1⟩:=q1e;obtain ⟨q2,hq2⟩:=q2e;have hm3:=HM3.out;have hT1:N1+q1<=4097:=by omega
 have hT2:N2+q2<=4097:=by omega
 have hq1b:q1<=65536:=by omega
 have hq2b:q2<=65536:=by omega
 have P1:0<val l:=by have:=B3.out;omega
 have P2:0<val l':=by have:=B3'.out;omega
 have L1:Hid (zAT (val l*2^q1)=N1+q1):=by unfold Hid;rw [zAc _ _ P1,HBN1.out]
 have L2:Hid (zAT (val l' * 2^q2)=N2+q2):=by unfold Hid;rw [zAc _ _ P2,HBN2.out]
 have D1:Hid ((zAa (val l*2^q1)).length<=256):=Yq (zAP _ 129 (by rw [L1.out];omega)) (by omega);have D2:Hid ((zAa (val l' * 2^q2)).length<=256):=Yq (zAP _ 129 (by rw [L2.out];omega)) (by omega);have W1:IntKind.i64.wrap (x - mn)=(q1:Int):=by rw [hq1];exact IntWalk.i64_in _ (by omega)
 have W2:IntKind.i64.wrap (x' - mn)=(q2:Int):=by rw [hq2];exact IntWalk.i64_in _ (by omega)
 have E1:Hid ((x - mn).toNat=q1):=by unfold Hid;omega
 have E2:Hid ((x' - mn).toNat=q2):=by unfold Hid;omega
 clear hm3 hq1 hq2 P1 P2;go_wp2_with fail
 go_region_held3 (fun W=>W.cell? ⟨w.heap.size,1,none⟩=some (.slice A n c)/\W.cell? ⟨w.heap.size,2,none⟩=some (.int .i64 x)/\W.cell? ⟨w.heap.size+1,1,none⟩=some (.slice B m d)/\W.cell? ⟨w.heap.size+1,2,none⟩=some (.int .i64 x'))
  (first | exact ⟨s1,s2,t1,t2⟩ | exact zEf hbC (by simp;omega) (by simp;omega) ⟨s1,s2,t1,t2⟩ | exact zEf (zAA hbC hbD) (by simp;omega) (by simp;omega) ⟨s1,s2,t1,t2⟩)
  (first
   | (go_at_call 128; (with_reducible refine (zAs A n c q1 _ l _ h2.drew hn256 rfl hq1b D1.out).mono ?_);rintro e wC ⟨AC,nC,cC,rfl,hsC,hfC,hbC⟩)
   | (go_at_call 128; (with_reducible refine (zAs B m d q2 _ l' _ (h2'.drew.below hbC) hm256 rfl hq2b D2.out).mono ?_);rintro e wD ⟨AD,nD,cD,rfl,hsD,hfD,hbD⟩))
 have hbCD:=zAA hbC hbD;have k1D:=k1B.drew.below hbCD (by simp;omega);have k2D:=k2B.drew.below hbCD (by simp;omega);have k3D:=k3B.drew.below hbCD (by simp;omega);have hbwD:Below w.heap.size w wD:=zAA (zAR hbw 1) hbCD;have hsC2:=hsC.below hbD;have HTD:=Zh ((show zBx wB.drew from HTB.out).next hbCD);have hzD:w.heap.size+3<=wD.heap.size:=by have:=hbCD.size;simp at this;omega
 have hsz1:=hbC.size;simp at hsz1;have FC:Hid (zAn (w.heap.size+1) AC nC):=hfC.mono (by simp;omega);have FD:Hid (zAn (w.heap.size+1) AD nD):=hfD.mono (by omega);clear hsz1;have hnC:nC<=129:=by rw [<- hsC.len];exact zAP _ 129 (by rw [L1.out];omega)
 have hnD:nD<=129:=by rw [<- hsD.len];exact zAP _ 129 (by rw [L2.out];omega)
 clear k1B k2B k3B h2 h2' HTB hbC hbD hbCD hsC hfC hfD hzB W1 W2 D1 D2 s0 s1 s2 t0 t1 t2 r0 r1 r2 f0 f1 f2 hbw;obtain ⟨s0,s1,s2⟩:=k1D.cells3;obtain ⟨t0,t1,t2⟩:=k2D.cells3;obtain ⟨r0,r1,r2⟩:=k3D.cells3;have f0:=k3D.frozen 0;have f1:=k3D.frozen 1;have f2:=k3D.frozen 2;have hsb:(neg == neg')=false:=by simp [HSG.out]
 have HPQ:=Zh hpq;clear hpq;go_wp2_with fail
 refine (zDN AC AD nC cC nD cD _ _ _ hsC2 hsD).mono ?_;rintro e wX ⟨rfl,qX,rfl⟩
 rw [zAH,zAH];have hcm:¬ zCT (val l*2^q1) (val l' * 2^q2)<0:=by
  unfold zCT;have:=HPQ.out;rw [E1.out,E2.out] at this;rw [if_neg this]
  split <;> omega
 generalize zCT (val l*2^q1) (val l' * 2^q2)=zc at *;have HLE:Hid ((zAa (val l*2^q1 - val l' * 2^q2)).length<=256):=by
  have:=zCR (v:=val l*2^q1 - val l' * 2^q2) (zAk (val l*2^q1)) (by rw [hsC2.len];omega) (by rw [zAH];omega);exact this
 go_wp2_with fail
 refine (zJO AC AD nC cC nD cD _ _ _ (hsC2.drewN qX) (hsD.drewN qX) (by omega) (by omega) (by have:=HPQ.out;rw [E1.out,E2.out] at this;rw [zAH,zAH];omega)).mono ?_;rintro e wE ⟨AE,nE,cE,rfl,hsE,hfE,hbE'⟩
 have hbE:Below wD.heap.size wD wE:=zAA (zAR (Yp _ _) qX) hbE';rw [zAH,zAH] at hsE;have hbwE:=zAA hbwD hbE;have k1E:=k1D.below hbE (by omega);have k3E:=k3D.below hbE (by omega);have HTE:=Zh (HTD.out.next hbE);have hzE:w.heap.size+3<=wE.heap.size:=by have:=hbE.size;omega
 have SV:Hid (zDB neg neg' (val l*2^(x - mn).toNat) (val l' * 2^(x' - mn).toNat) mn=zAu neg (val l*2^q1 - val l' * 2^q2) mn):=by unfold Hid;rw [E1.out,E2.out];have hp:=HPQ.out;rw [E1.out,E2.out] at hp;rw [zDB,if_neg HSG.out,if_neg hp]
 generalize zDB neg neg' (val l*2^(x - mn).toNat) (val l' * 2^(x' - mn).toNat) mn=r at *;generalize val l*2^q1 - val l' * 2^q2=V at *;clear k1D k2D k3D HTD hzD hsC2 hsD hbE s0 s1 s2 t0 t1 t2 r0 r1 r2 f0 f1 f2 hbwD;obtain ⟨s0,s1,s2⟩:=k1E.cells3;obtain ⟨r0,r1,r2⟩:=k3E.cells3;have hnE:nE<=256:=by rw [<- hsE.len];exact HLE.out
 go_wp2_with fail
 refine (zAi neg AE nE cE _ mn _ hsE hnE (by omega) (by omega) HTE.out).mono ?_;rintro e wF ⟨AF,nF,cF,rfl,hsF,hfF,hbF⟩
 rw [zAH] at hsF ⊢;have hnF:nF<=256:=by
  rw [<- hsF.len];unfold zAN
  split
  ·simp [zAZ]
  ·exact zCR (zAk V) HLE.out (by rw [zAH];exact Nat.div_le_self _ _)
 have HD:Hid (zAu neg V mn=if inR (val (zAN neg V mn).l) (zAN neg V mn).e=true then (zAN neg V mn,0) else (zAZ,9)):=rfl;have hrd:r=if inR (val (zAN neg V mn).l) (zAN neg V mn).e=true then (zAN neg V mn,0) else (zAZ,9):=by rw [SV.out,HD.out]
 have HRD:=Zh hrd;clear hrd HD SV;generalize zAN neg V mn=dd at *;by_cases hr:inR (val dd.l) dd.e=true
 ·have hrr:r=(dd,0):=by rw [HRD.out,if_pos hr]
  subst hrr;go_wp2_with fail
  refine (zBf dd.neg AF nF cF dd.l dd.e _ hsF (by omega) hr).mono ?_;rintro e wG ⟨rfl,hbG⟩
  have hbFG:=zAA hbF hbG;have k3G:=k3E.below hbFG (by omega);obtain ⟨v0,v1,v2⟩:=k3G.cells3;have g0:=k3G.frozen 0;have g1:=k3G.frozen 1;have g2:=k3G.frozen 2;have hzG:w.heap.size+3<=wG.heap.size:=by have:=hbFG.size;omega
  clear hr HRD;go_wp2_with fail
  refine Yn (zBI Tryz.results110 rfl (k3G.set3 _ _ _)) rfl ?_;have hsG:=hsF.below hbG;have hlt:w.heap.size+1+1<wE.heap.size:=by omega
  exact ⟨AF,nF,cF,rfl,(((hsG.far hfF hlt 0 _).far hfF hlt 1 _).far hfF hlt 2 _),hfF.mono (by omega),zAG (zAA hbwE hbFG) (by omega) _ _ _⟩
 ·have hrr:r=(zAZ,9):=by rw [HRD.out,if_neg hr]
  subst hrr;go_wp2_with fail
  refine (zBJ dd.neg AF nF cF dd.l dd.e _ hsF (by omega) (by simpa using hr)).mono ?_;rintro e wG ⟨rfl,hbG⟩
  have hbFG:=zAA hbF hbG;have k3G:=k3E.below hbFG (by omega);obtain ⟨v0,v1,v2⟩:=k3G.cells3;have g0:=k3G.frozen 0;have g1:=k3G.frozen 1;have g2:=k3G.frozen 2;have hzG:w.heap.size+3<=wG.heap.size:=by have:=hbFG.size;omega
  clear hr HRD;go_wp2_with fail
  refine Yn (zBI Tryz.results110 rfl (k3G.set3 _ _ _)) rfl ?_;exact ⟨none,0,0,rfl,SL.nil _,zAn.zero,zAG (zAA hbwE hbFG) (by omega) _ _ _⟩
theorem zQz (neg neg':Bool) (A B:Option Addr) (n c m d:Nat) (l l':List Nat) (x x' mn:Int) (w:World) (h:SL w A n c l) (h':SL w B m d l') (ht:zBx w)
  (hv:vld ⟨neg,l,x⟩=true) (hv':vld ⟨neg',l',x'⟩=true) (hne:n≠0) (hne':m≠0) (hmn:min x x' = mn) (he:¬ 4097<max ((zAT (val l):Int)+x) ((zAT (val l'):Int)+x') - mn) (hsg:¬ neg=neg') (hpq:(val l*2^(x - mn).toNat<val l' * 2^(x' - mn).toNat)) :
  Calls Tryz.prog 110 #[.agg #[.bool neg,.slice A n c,.int .i64 x],.agg #[.bool neg',.slice B m d,.int .i64 x']] w (zJI (zDB neg neg' (val l*2^(x - mn).toNat) (val l' * 2^(x' - mn).toNat) mn).1 (zDB neg neg' (val l*2^(x - mn).toNat) (val l' * 2^(x' - mn).toNat) mn).2 w):=by
 have HSG:=Zh hsg;clear hsg;obtain ⟨b1,b2,b3,b4,b5,b6,b7⟩:=zAU hv ((zAL h).2 hne);obtain ⟨b1',b2',b3',b4',b5',b6',b7'⟩:=zAU hv' ((zAL h').2 hne');have hn256:n<=256:=by rw [<- h.len];exact b1
 have hm256:m<=256:=by rw [<- h'.len];exact b1'
 have B2:=Zh b2;have B2':=Zh b2';have B3:=Zh b3;have B3':=Zh b3';have TT:Hid (zCU ⟨neg,l,x⟩=(zAT (val l):Int)+x):=by unfold Hid zCU;rw [if_pos ⟨hv,(zAL h).2 hne⟩]
 have TT':Hid (zCU ⟨neg',l',x'⟩=(zAT (val l'):Int)+x'):=by unfold Hid zCU;rw [if_pos ⟨hv',(zAL h').2 hne'⟩]
 have n0:((n:Int) == 0)=false:=by simp;omega
 have m0:((m:Int) == 0)=false:=by simp;omega
 have hm1:mn<=x:=by omega
 have hm2:mn<=x':=by omega
 have hm3:mn=x\/mn=x':=by omega
 simp only at b4 b5 b6 b7 b4' b5' b6' b7';have hm4:-16384<=mn:=by omega
 have HM3:=Zh hm3;have HMN:=Zh hmn;have HV:=Zh hv;have HV':=Zh hv';clear b1 b1' b2 b2' b3 b3' hmn hv hv' hm3;go_enter Tryz.func110,Tryz.ntmps110
 go_wp2_with fail
 rw [HMN.out];obtain ⟨k1,k2,k3,k4,k5⟩:=zNO w 41 #[.bool neg,.slice A n c,.int .i64 x] #[.bool neg',.slice B m d,.int .i64 x'] #[.bool false,.slice none 0 0,.int .i64 0];have h1:=h.below k5;have h1':=h'.below k5;have HT:=Zh (ht.next k5);have HG0:=Zh ht.lt;clear ht;generalize ((w.alloc (.cells #[.bool neg,.slice A n c,.int .i64 x] 41)).alloc (.cells #[.bool neg',.slice B m d,.int .i64 x'] 41)).alloc (.cells #[.bool false,.slice none 0 0,.int .i64 0] 41)=W0 at *;obtain ⟨s0,s1,s2⟩:=k1.cells3;obtain ⟨t0,t1,t2⟩:=k2.cells3;have hz:w.heap.size+3<=W0.heap.size:=by omega
 clear k4
 go_region_held3 (fun W=>W.cell? ⟨w.heap.size,0,none⟩=some (.bool neg)/\W.cell? ⟨w.heap.size,1,none⟩=some (.slice A n c)/\W.cell? ⟨w.heap.size,2,none⟩=some (.int .i64 x)/\W.cell? ⟨w.heap.size+1,0,none⟩=some (.bool neg')/\W.cell? ⟨w.heap.size+1,1,none⟩=some (.slice B m d)/\W.cell? ⟨w.heap.size+1,2,none⟩=some (.int .i64 x'))
  (first | exact ⟨s0,s1,s2,t0,t1,t2⟩ | exact zCn hbA (by simp;omega) (by simp;omega) ⟨s0,s1,s2,t0,t1,t2⟩ | exact zCn (zAA hbA hbB) (by simp;omega) (by simp;omega) ⟨s0,s1,s2,t0,t1,t2⟩)
  (first
   | (go_at_call 126; (with_reducible refine (zBB neg A n c l x _ h1.drew (by omega)).mono ?_);rintro e wA ⟨rfl,hbA⟩)
   | (go_at_call 126; (with_reducible refine (zBB neg' B m d l' x' _ (h1'.drew.below hbA) (by omega)).mono ?_);rintro e wB ⟨rfl,hbB⟩))
 rw [TT.out,TT'.out];have hbAB:=zAA hbA hbB;have k1B:=k1.drew.below hbAB (by simp;omega);have k2B:=k2.drew.below hbAB (by simp;omega);have k3B:=k3.drew.below hbAB (by simp;omega);have hbw:Below w.heap.size w wB:=zAA (zAR k5 1) hbAB;have h2:=h1.drew.below hbAB;have h2':=h1'.drew.below hbAB;have HTB:=Zh ((show zBx W0.drew from HT.out).next hbAB);have hzB:w.heap.size+3<=wB.heap.size:=by have:=hbAB.size;simp at this;omega
 clear k1 k2 k3 k5 h1 h1' s0 s1 s2 t0 t1 t2 HT hbA hbB hbAB hz TT TT' HV HV';obtain ⟨s0,s1,s2⟩:=k1B.cells3;obtain ⟨t0,t1,t2⟩:=k2B.cells3;obtain ⟨r0,r1,r2⟩:=k3B.cells3;have f0:=k3B.frozen 0;have f1:=k3B.frozen 1;have f2:=k3B.frozen 2;have HN1:Hid (zAT (val l)=zAT (val l)):=rfl;generalize hN1:zAT (val l)=N1 at *;generalize hN2:zAT (val l')=N2 at *;have HBN1:=Zh hN1;have HBN2:=Zh hN2;clear hN1 hN2 HN1;have hmx1:max ((N1:Int)+x) ((N2:Int)+x')<=40000:=by omega
 have hmx2:-40000<=max ((N1:Int)+x) ((N2:Int)+x'):=by omega
 have hd1:decide (4097<max ((N1:Int)+x) ((N2:Int)+x') - mn)=false:=Ye (by omega);have q1e:∃q1:Nat,x - mn=(q1:Int):=⟨(x - mn).toNat,by omega⟩;have q2e:∃q2:Nat,x' - mn=(q2:Int):=⟨(x' - mn).toNat,by omega⟩;obtain ⟨q1,hq1⟩:=q1e;obtain ⟨q2,hq2⟩:=q2e;have hm3:=HM3.out;have hT1:N1+q1<=4097:=by omega
 have hT2:N2+q2<=4097:=by omega
 have hq1b:q1<=65536:=by omega
 have hq2b:q2<=65536:=by omega
 have P1:0<val l:=by have:=B3.out;omega
 have P2:0<val l':=by have:=B3'.out;omega
 have L1:Hid (zAT (val l*2^q1)=N1+q1):=by unfold Hid;rw [zAc _ _ P1,HBN1.out]
 have L2:Hid (zAT (val l' * 2^q2)=N2+q2):=by unfold Hid;rw [zAc _ _ P2,HBN2.out]
 have D1:Hid ((zAa (val l*2^q1)).length<=256):=Yq (zAP _ 129 (by rw [L1.out];omega)) (by omega);have D2:Hid ((zAa (val l' * 2^q2)).length<=256):=Yq (zAP _ 129 (by rw [L2.out];omega)) (by omega);have W1:IntKind.i64.wrap (x - mn)=(q1:Int):=by rw [hq1];exact IntWalk.i64_in _ (by omega)
 have W2:IntKind.i64.wrap (x' - mn)=(q2:Int):=by rw [hq2];exact IntWalk.i64_in _ (by omega)
 have E1:Hid ((x - mn).toNat=q1):=by unfold Hid;omega
 have E2:Hid ((x' - mn).toNat=q2):=by unfold Hid;omega
 clear hm3 hq1 hq2 P1 P2;go_wp2_with fail
 go_region_held3 (fun W=>W.cell? ⟨w.heap.size,1,none⟩=some (.slice A n c)/\W.cell? ⟨w.heap.size,2,none⟩=some (.int .i64 x)/\W.cell? ⟨w.heap.size+1,1,none⟩=some (.slice B m d)/\W.cell? ⟨w.heap.size+1,2,none⟩=some (.int .i64 x'))
  (first | exact ⟨s1,s2,t1,t2⟩ | exact zEf hbC (by simp;omega) (by simp;omega) ⟨s1,s2,t1,t2⟩ | exact zEf (zAA hbC hbD) (by simp;omega) (by simp;omega) ⟨s1,s2,t1,t2⟩)
  (first
   | (go_at_call 128; (with_reducible refine (zAs A n c q1 _ l _ h2.drew hn256 rfl hq1b D1.out).mono ?_);rintro e wC ⟨AC,nC,cC,rfl,hsC,hfC,hbC⟩)
   | (go_at_call 128; (with_reducible refine (zAs B m d q2 _ l' _ (h2'.drew.below hbC) hm256 rfl hq2b D2.out).mono ?_);rintro e wD ⟨AD,nD,cD,rfl,hsD,hfD,hbD⟩))
 have hbCD:=zAA hbC hbD;have k1D:=k1B.drew.below hbCD (by simp;omega);have k2D:=k2B.drew.below hbCD (by simp;omega);have k3D:=k3B.drew.below hbCD (by simp;omega);have hbwD:Below w.heap.size w wD:=zAA (zAR hbw 1) hbCD;have hsC2:=hsC.below hbD;have HTD:=Zh ((show zBx wB.drew from HTB.out).next hbCD);have hzD:w.heap.size+3<=wD.heap.size:=by have:=hbCD.size;simp at this;omega
 have hsz1:=hbC.size;simp at hsz1;have FC:Hid (zAn (w.heap.size+1) AC nC):=hfC.mono (by simp;omega);have FD:Hid (zAn (w.heap.size+1) AD nD):=hfD.mono (by omega);clear hsz1;have hnC:nC<=129:=by rw [<- hsC.len];exact zAP _ 129 (by rw [L1.out];omega)
 have hnD:nD<=129:=by rw [<- hsD.len];exact zAP _ 129 (by rw [L2.out];omega)
 clear k1B k2B k3B h2 h2' HTB hbC hbD hbCD hsC hfC hfD hzB W1 W2 D1 D2 s0 s1 s2 t0 t1 t2 r0 r1 r2 f0 f1 f2 hbw;obtain ⟨s0,s1,s2⟩:=k1D.cells3;obtain ⟨t0,t1,t2⟩:=k2D.cells3;obtain ⟨r0,r1,r2⟩:=k3D.cells3;have f0:=k3D.frozen 0;have f1:=k3D.frozen 1;have f2:=k3D.frozen 2;have hsb:(neg == neg')=false:=by simp [HSG.out]
 have HPQ:=Zh hpq;clear hpq;go_wp2_with fail
 refine (zDN AC AD nC cC nD cD _ _ _ hsC2 hsD).mono ?_;rintro e wX ⟨rfl,qX,rfl⟩
 rw [zAH,zAH];have hcm:zCT (val l*2^q1) (val l' * 2^q2)<0:=by
  have:=HPQ.out;rw [E1.out,E2.out] at this;rw [zCL this];omega
 generalize zCT (val l*2^q1) (val l' * 2^q2)=zc at *;have HLE:Hid ((zAa (val l' * 2^q2 - val l*2^q1)).length<=256):=by
  have:=zCR (v:=val l' * 2^q2 - val l*2^q1) (zAk (val l' * 2^q2)) (by rw [hsD.len];omega) (by rw [zAH];omega);exact this
 have fs0:=k1D.frozen 0;have fs1:=k1D.frozen 1;have fs2:=k1D.frozen 2;go_wp2_with fail
 have k1S:=(k1D.drewN qX).set3 (.bool neg') (.slice B m d) (.int .i64 x');have k3S:=(((k3D.drewN qX).far (p:=⟨w.heap.size,0,none⟩) (by simp <;> omega) (.bool neg')).far (p:=⟨w.heap.size,1,none⟩) (by simp <;> omega) (.slice B m d)).far (p:=⟨w.heap.size,2,none⟩) (by simp <;> omega) (.int .i64 x');have hsCS:=(((hsC2.drewN qX).far FC.out (Nat.lt_succ_self _) 0 (.bool neg')).far FC.out (Nat.lt_succ_self _) 1 (.slice B m d)).far FC.out (Nat.lt_succ_self _) 2 (.int .i64 x');have hsDS:=(((hsD.drewN qX).far FD.out (Nat.lt_succ_self _) 0 (.bool neg')).far FD.out (Nat.lt_succ_self _) 1 (.slice B m d)).far FD.out (Nat.lt_succ_self _) 2 (.int .i64 x');have hbS:=zAG (zAR hbwD qX) (Ya _) (.bool neg') (.slice B m d) (.int .i64 x');have hbDS:=zAG (B:=w.heap.size) (zAR (Yp _ wD) qX) (Ya _) (.bool neg') (.slice B m d) (.int .i64 x');have HTS:=Zh (HTD.out.below hbDS HG0.out);have hzS:=Yq hzD hbDS.size;clear k1D k2D k3D hsC2 hsD hbwD HTD hzD s0 s1 s2 t0 t1 t2 r0 r1 r2 f0 f1 f2 fs0 fs1 fs2 hbDS;generalize ((((wD.drewN qX).setCell ⟨w.heap.size,0,none⟩ (.bool neg')).setCell ⟨w.heap.size,1,none⟩ (.slice B m d)).setCell ⟨w.heap.size,2,none⟩ (.int .i64 x'))=wS at *;have k1D:=k1S;have k2D:=k1S;have k3D:=k3S;have hsC2:=hsCS;have hsD:=hsDS;have hbwD:=hbS;have HTD:=HTS;have hzD:=hzS;obtain ⟨s0,s1,s2⟩:=k1D.cells3;obtain ⟨r0,r1,r2⟩:=k3D.cells3;obtain ⟨t0,t1,t2⟩:=k1D.cells3;have f0:=k3D.frozen 0;have f1:=k3D.frozen 1;have f2:=k3D.frozen 2;clear k1S k3S hsCS hsDS hbS HTS hzS;refine (zJO AD AC nD cD nC cC _ _ _ hsD hsC2 (by omega) (by omega) (by have:=HPQ.out;rw [E1.out,E2.out] at this;rw [zAH,zAH];omega)).mono ?_;rintro e wE ⟨AE,nE,cE,rfl,hsE,hfE,hbE⟩
 rw [zAH,zAH] at hsE;have hbwE:=zAA hbwD hbE;have k1E:=k1D.below hbE (by omega);have k3E:=k3D.below hbE (by omega);have HTE:=Zh (HTD.out.next hbE);have hzE:w.heap.size+3<=wE.heap.size:=by have:=hbE.size;omega
 have SV:Hid (zDB neg neg' (val l*2^(x - mn).toNat) (val l' * 2^(x' - mn).toNat) mn=zAu neg' (val l' * 2^q2 - val l*2^q1) mn):=by unfold Hid;rw [E1.out,E2.out];have hp:=HPQ.out;rw [E1.out,E2.out] at hp;rw [zDB,if_neg HSG.out,if_pos hp]
 generalize zDB neg neg' (val l*2^(x - mn).toNat) (val l' * 2^(x' - mn).toNat) mn=r at *;generalize val l' * 2^q2 - val l*2^q1=V at *;clear k1D k2D k3D HTD hzD hsC2 hsD hbE s0 s1 s2 t0 t1 t2 r0 r1 r2 f0 f1 f2 hbwD;obtain ⟨s0,s1,s2⟩:=k1E.cells3;obtain ⟨r0,r1,r2⟩:=k3E.cells3;have hnE:nE<=256:=by rw [<- hsE.len];exact HLE.out
 go_wp2_with fail
 refine (zAi neg' AE nE cE _ mn _ hsE hnE (by omega) (by omega) HTE.out).mono ?_;rintro e wF ⟨AF,nF,cF,rfl,hsF,hfF,hbF⟩
 rw [zAH] at hsF ⊢;have hnF:nF<=256:=by
  rw [<- hsF.len];unfold zAN
  split
  ·simp [zAZ]
  ·exact zCR (zAk V) HLE.out (by rw [zAH];exact Nat.div_le_self _ _)
 have HD:Hid (zAu neg' V mn=if inR (val (zAN neg' V mn).l) (zAN neg' V mn).e=true then (zAN neg' V mn,0) else (zAZ,9)):=rfl;have hrd:r=if inR (val (zAN neg' V mn).l) (zAN neg' V mn).e=true then (zAN neg' V mn,0) else (zAZ,9):=by rw [SV.out,HD.out]
 have HRD:=Zh hrd;clear hrd HD SV;generalize zAN neg' V mn=dd at *;by_cases hr:inR (val dd.l) dd.e=true
 ·have hrr:r=(dd,0):=by rw [HRD.out,if_pos hr]
  subst hrr;go_wp2_with fail
  refine (zBf dd.neg AF nF cF dd.l dd.e _ hsF (by omega) hr).mono ?_;rintro e wG ⟨rfl,hbG⟩
  have hbFG:=zAA hbF hbG;have k3G:=k3E.below hbFG (by omega);obtain ⟨v0,v1,v2⟩:=k3G.cells3;have g0:=k3G.frozen 0;have g1:=k3G.frozen 1;have g2:=k3G.frozen 2;have hzG:w.heap.size+3<=wG.heap.size:=by have:=hbFG.size;omega
  clear hr HRD;go_wp2_with fail
  refine Yn (zBI Tryz.results110 rfl (k3G.set3 _ _ _)) rfl ?_;have hsG:=hsF.below hbG;have hlt:w.heap.size+1+1<wE.heap.size:=by omega
  exact ⟨AF,nF,cF,rfl,(((hsG.far hfF hlt 0 _).far hfF hlt 1 _).far hfF hlt 2 _),hfF.mono (by omega),zAG (zAA hbwE hbFG) (by omega) _ _ _⟩
 ·have hrr:r=(zAZ,9):=by rw [HRD.out,if_neg hr]
  subst hrr;go_wp2_with fail
  refine (zBJ dd.neg AF nF cF dd.l dd.e _ hsF (by omega) (by simpa using hr)).mono ?_;rintro e wG ⟨rfl,hbG⟩
  have hbFG:=zAA hbF hbG;have k3G:=k3E.below hbFG (by omega);obtain ⟨v0,v1,v2⟩:=k3G.cells3;have g0:=k3G.frozen 0;have g1:=k3G.frozen 1;have g2:=k3G.frozen 2;have hzG:w.heap.size+3<=wG.heap.size:=by have:=hbFG.size;omega
  clear hr HRD;go_wp2_with fail
  refine Yn (zBI Tryz.results110 rfl (k3G.set3 _ _ _)) rfl ?_;exact ⟨none,0,0,rfl,SL.nil _,zAn.zero,zAG (zAA hbwE hbFG) (by omega) _ _ _⟩
theorem zQ0 (neg neg':Bool) (A B:Option Addr) (n c m d:Nat) (l l':List Nat) (x x' mn:Int) (w:World) (h:SL w A n c l) (h':SL w B m d l') (ht:zBx w)
  (hv:vld ⟨neg,l,x⟩=true) (hv':vld ⟨neg',l',x'⟩=true) (hne:n≠0) (hne':m≠0) (hmn:min x x' = mn) (he:4097<max ((zAT (val l):Int)+x) ((zAT (val l'):Int)+x') - mn) (he1:¬ 1<((zAT (val l):Int)+x) - ((zAT (val l'):Int)+x')) (he2:¬ 1<((zAT (val l'):Int)+x') - ((zAT (val l):Int)+x)) (hsg:¬ neg=neg') (hpq:(val l*2^(x - mn).toNat<val l' * 2^(x' - mn).toNat)) :
  Calls Tryz.prog 110 #[.agg #[.bool neg,.slice A n c,.int .i64 x],.agg #[.bool neg',.slice B m d,.int .i64 x']] w (zJI (zDB neg neg' (val l*2^(x - mn).toNat) (val l' * 2^(x' - mn).toNat) mn).1 (zDB neg neg' (val l*2^(x - mn).toNat) (val l' * 2^(x' - mn).toNat) mn).2 w):=by
 have HSG:=Zh hsg;clear hsg;obtain ⟨b1,b2,b3,b4,b5,b6,b7⟩:=zAU hv ((zAL h).2 hne);obtain ⟨b1',b2',b3',b4',b5',b6',b7'⟩:=zAU hv' ((zAL h').2 hne');have hn256:n<=256:=by rw [<- h.len];exact b1
 have hm256:m<=256:=by rw [<- h'.len];exact b1'
 have B2:=Zh b2;have B2':=Zh b2';have B3:=Zh b3;have B3':=Zh b3';have TT:Hid (zCU ⟨neg,l,x⟩=(zAT (val l):Int)+x):=by unfold Hid zCU;rw [if_pos ⟨hv,(zAL h).2 hne⟩]
 have TT':Hid (zCU ⟨neg',l',x'⟩=(zAT (val l'):Int)+x'):=by unfold Hid zCU;rw [if_pos ⟨hv',(zAL h').2 hne'⟩]
 have n0:((n:Int) == 0)=false:=by simp;omega
 have m0:((m:Int) == 0)=false:=by simp;omega
 have hm1:mn<=x:=by omega
 have hm2:mn<=x':=by omega
 have hm3:mn=x\/mn=x':=by omega
 simp only at b4 b5 b6 b7 b4' b5' b6' b7';have hm4:-16384<=mn:=by omega
 have HM3:=Zh hm3;have HMN:=Zh hmn;have HV:=Zh hv;have HV':=Zh hv';clear b1 b1' b2 b2' b3 b3' hmn hv hv' hm3;go_enter Tryz.func110,Tryz.ntmps110
 go_wp2_with fail
 rw [HMN.out];obtain ⟨k1,k2,k3,k4,k5⟩:=zNO w 41 #[.bool neg,.slice A n c,.int .i64 x] #[.bool neg',.slice B m d,.int .i64 x'] #[.bool false,.slice none 0 0,.int .i64 0];have h1:=h.below k5;have h1':=h'.below k5;have HT:=Zh (ht.next k5);have HG0:=Zh ht.lt;clear ht;generalize ((w.alloc (.cells #[.bool neg,.slice A n c,.int .i64 x] 41)).alloc (.cells #[.bool neg',.slice B m d,.int .i64 x'] 41)).alloc (.cells #[.bool false,.slice none 0 0,.int .i64 0] 41)=W0 at *;obtain ⟨s0,s1,s2⟩:=k1.cells3;obtain ⟨t0,t1,t2⟩:=k2.cells3;have hz:w.heap.size+3<=W0.heap.size:=by omega
 clear k4
 go_region_held3 (fun W=>W.cell? ⟨w.heap.size,0,none⟩=some (.bool neg)/\W.cell? ⟨w.heap.size,1,none⟩=some (.slice A n c)/\W.cell? ⟨w.heap.size,2,none⟩=some (.int .i64 x)/\W.cell? ⟨w.heap.size+1,0,none⟩=some (.bool neg')/\W.cell? ⟨w.heap.size+1,1,none⟩=some (.slice B m d)/\W.cell? ⟨w.heap.size+1,2,none⟩=some (.int .i64 x'))
  (first | exact ⟨s0,s1,s2,t0,t1,t2⟩ | exact zCn hbA (by simp;omega) (by simp;omega) ⟨s0,s1,s2,t0,t1,t2⟩ | exact zCn (zAA hbA hbB) (by simp;omega) (by simp;omega) ⟨s0,s1,s2,t0,t1,t2⟩)
  (first
   | (go_at_call 126; (with_reducible refine (zBB neg A n c l x _ h1.drew (by omega)).mono ?_);rintro e wA ⟨rfl,hbA⟩)
   | (go_at_call 126; (with_reducible refine (zBB neg' B m d l' x' _ (h1'.drew.below hbA) (by omega)).mono ?_);rintro e wB ⟨rfl,hbB⟩))
 rw [TT.out,TT'.out];have hbAB:=zAA hbA hbB;have k1B:=k1.drew.below hbAB (by simp;omega);have k2B:=k2.drew.below hbAB (by simp;omega);have k3B:=k3.drew.below hbAB (by simp;omega);have hbw:Below w.heap.size w wB:=zAA (zAR k5 1) hbAB;have h2:=h1.drew.below hbAB;have h2':=h1'.drew.below hbAB;have HTB:=Zh ((show zBx W0.drew from HT.out).next hbAB);have hzB:w.heap.size+3<=wB.heap.size:=by have:=hbAB.size;simp at this;omega
 clear k1 k2 k3 k5 h1 h1' s0 s1 s2 t0 t1 t2 HT hbA hbB hbAB hz TT TT' HV HV';obtain ⟨s0,s1,s2⟩:=k1B.cells3;obtain ⟨t0,t1,t2⟩:=k2B.cells3;obtain ⟨r0,r1,r2⟩:=k3B.cells3;have f0:=k3B.frozen 0;have f1:=k3B.frozen 1;have f2:=k3B.frozen 2;have HN1:Hid (zAT (val l)=zAT (val l)):=rfl;generalize hN1:zAT (val l)=N1 at *;generalize hN2:zAT (val l')=N2 at *;have HBN1:=Zh hN1;have HBN2:=Zh hN2;clear hN1 hN2 HN1;have hmx1:max ((N1:Int)+x) ((N2:Int)+x')<=40000:=by omega
 have hmx2:-40000<=max ((N1:Int)+x) ((N2:Int)+x'):=by omega
 have hd1:decide (4097<max ((N1:Int)+x) ((N2:Int)+x') - mn)=true:=Yf (by omega);have q1e:∃q1:Nat,x - mn=(q1:Int):=⟨(x - mn).toNat,by omega⟩;have q2e:∃q2:Nat,x' - mn=(q2:Int):=⟨(x' - mn).toNat,by omega⟩;obtain ⟨q1,hq1⟩:=q1e;obtain ⟨q2,hq2⟩:=q2e;have hm3:=HM3.out;have hT1:N1+q1<=4097:=by omega
 have hT2:N2+q2<=4097:=by omega
 have hq1b:q1<=65536:=by omega
 have hq2b:q2<=65536:=by omega
 have P1:0<val l:=by have:=B3.out;omega
 have P2:0<val l':=by have:=B3'.out;omega
 have L1:Hid (zAT (val l*2^q1)=N1+q1):=by unfold Hid;rw [zAc _ _ P1,HBN1.out]
 have L2:Hid (zAT (val l' * 2^q2)=N2+q2):=by unfold Hid;rw [zAc _ _ P2,HBN2.out]
 have D1:Hid ((zAa (val l*2^q1)).length<=256):=Yq (zAP _ 129 (by rw [L1.out];omega)) (by omega);have D2:Hid ((zAa (val l' * 2^q2)).length<=256):=Yq (zAP _ 129 (by rw [L2.out];omega)) (by omega);have W1:IntKind.i64.wrap (x - mn)=(q1:Int):=by rw [hq1];exact IntWalk.i64_in _ (by omega)
 have W2:IntKind.i64.wrap (x' - mn)=(q2:Int):=by rw [hq2];exact IntWalk.i64_in _ (by omega)
 have E1:Hid ((x - mn).toNat=q1):=by unfold Hid;omega
 have E2:Hid ((x' - mn).toNat=q2):=by unfold Hid;omega
 clear hm3 hq1 hq2 P1 P2;go_wp2_with fail
 go_region_held3 (fun W=>W.cell? ⟨w.heap.size,1,none⟩=some (.slice A n c)/\W.cell? ⟨w.heap.size,2,none⟩=some (.int .i64 x)/\W.cell? ⟨w.heap.size+1,1,none⟩=some (.slice B m d)/\W.cell? ⟨w.heap.size+1,2,none⟩=some (.int .i64 x'))
  (first | exact ⟨s1,s2,t1,t2⟩ | exact zEf hbC (by simp;omega) (by simp;omega) ⟨s1,s2,t1,t2⟩ | exact zEf (zAA hbC hbD) (by simp;omega) (by simp;omega) ⟨s1,s2,t1,t2⟩)
  (first
   | (go_at_call 128; (with_reducible refine (zAs A n c q1 _ l _ h2.drew hn256 rfl hq1b D1.out).mono ?_);rintro e wC ⟨AC,nC,cC,rfl,hsC,hfC,hbC⟩)
   | (go_at_call 128; (with_reducible refine (zAs B m d q2 _ l' _ (h2'.drew.below hbC) hm256 rfl hq2b D2.out).mono ?_);rintro e wD ⟨AD,nD,cD,rfl,hsD,hfD,hbD⟩))
 have hbCD:=zAA hbC hbD;have k1D:=k1B.drew.below hbCD (by simp;omega);have k2D:=k2B.drew.below hbCD (by simp;omega);have k3D:=k3B.drew.below hbCD (by simp;omega);have hbwD:Below w.heap.size w wD:=zAA (zAR hbw 1) hbCD;have hsC2:=hsC.below hbD;have HTD:=Zh ((show zBx wB.drew from HTB.out).next hbCD);have hzD:w.heap.size+3<=wD.heap.size:=by have:=hbCD.size;simp at this;omega
 have hsz1:=hbC.size;simp at hsz1;have FC:Hid (zAn (w.heap.size+1) AC nC):=hfC.mono (by simp;omega);have FD:Hid (zAn (w.heap.size+1) AD nD):=hfD.mono (by omega);clear hsz1;have hnC:nC<=129:=by rw [<- hsC.len];exact zAP _ 129 (by rw [L1.out];omega)
 have hnD:nD<=129:=by rw [<- hsD.len];exact zAP _ 129 (by rw [L2.out];omega)
 clear k1B k2B k3B h2 h2' HTB hbC hbD hbCD hsC hfC hfD hzB W1 W2 D1 D2 s0 s1 s2 t0 t1 t2 r0 r1 r2 f0 f1 f2 hbw;obtain ⟨s0,s1,s2⟩:=k1D.cells3;obtain ⟨t0,t1,t2⟩:=k2D.cells3;obtain ⟨r0,r1,r2⟩:=k3D.cells3;have f0:=k3D.frozen 0;have f1:=k3D.frozen 1;have f2:=k3D.frozen 2;have hsb:(neg == neg')=false:=by simp [HSG.out]
 have HPQ:=Zh hpq;clear hpq;go_wp2_with fail
 refine (zDN AC AD nC cC nD cD _ _ _ hsC2 hsD).mono ?_;rintro e wX ⟨rfl,qX,rfl⟩
 rw [zAH,zAH];have hcm:zCT (val l*2^q1) (val l' * 2^q2)<0:=by
  have:=HPQ.out;rw [E1.out,E2.out] at this;rw [zCL this];omega
 generalize zCT (val l*2^q1) (val l' * 2^q2)=zc at *;have HLE:Hid ((zAa (val l' * 2^q2 - val l*2^q1)).length<=256):=by
  have:=zCR (v:=val l' * 2^q2 - val l*2^q1) (zAk (val l' * 2^q2)) (by rw [hsD.len];omega) (by rw [zAH];omega);exact this
 have fs0:=k1D.frozen 0;have fs1:=k1D.frozen 1;have fs2:=k1D.frozen 2;go_wp2_with fail
 have k1S:=(k1D.drewN qX).set3 (.bool neg') (.slice B m d) (.int .i64 x');have k3S:=(((k3D.drewN qX).far (p:=⟨w.heap.size,0,none⟩) (by simp <;> omega) (.bool neg')).far (p:=⟨w.heap.size,1,none⟩) (by simp <;> omega) (.slice B m d)).far (p:=⟨w.heap.size,2,none⟩) (by simp <;> omega) (.int .i64 x');have hsCS:=(((hsC2.drewN qX).far FC.out (Nat.lt_succ_self _) 0 (.bool neg')).far FC.out (Nat.lt_succ_self _) 1 (.slice B m d)).far FC.out (Nat.lt_succ_self _) 2 (.int .i64 x');have hsDS:=(((hsD.drewN qX).far FD.out (Nat.lt_succ_self _) 0 (.bool neg')).far FD.out (Nat.lt_succ_self _) 1 (.slice B m d)).far FD.out (Nat.lt_succ_self _) 2 (.int .i64 x');have hbS:=zAG (zAR hbwD qX) (Ya _) (.bool neg') (.slice B m d) (.int .i64 x');have hbDS:=zAG (B:=w.heap.size) (zAR (Yp _ wD) qX) (Ya _) (.bool neg') (.slice B m d) (.int .i64 x');have HTS:=Zh (HTD.out.below hbDS HG0.out);have hzS:=Yq hzD hbDS.size;clear k1D k2D k3D hsC2 hsD hbwD HTD hzD s0 s1 s2 t0 t1 t2 r0 r1 r2 f0 f1 f2 fs0 fs1 fs2 hbDS;generalize ((((wD.drewN qX).setCell ⟨w.heap.size,0,none⟩ (.bool neg')).setCell ⟨w.heap.size,1,none⟩ (.slice B m d)).setCell ⟨w.heap.size,2,none⟩ (.int .i64 x'))=wS at *;have k1D:=k1S;have k2D:=k1S;have k3D:=k3S;have hsC2:=hsCS;have hsD:=hsDS;have hbwD:=hbS;have HTD:=HTS;have hzD:=hzS;obtain ⟨s0,s1,s2⟩:=k1D.cells3;obtain ⟨r0,r1,r2⟩:=k3D.cells3;obtain ⟨t0,t1,t2⟩:=k1D.cells3;have f0:=k3D.frozen 0;have f1:=k3D.frozen 1;have f2:=k3D.frozen 2;clear k1S k3S hsCS hsDS hbS HTS hzS;refine (zJO AD AC nD cD nC cC _ _ _ hsD hsC2 (by omega) (by omega) (by have:=HPQ.out;rw [E1.out,E2.out] at this;rw [zAH,zAH];omega)).mono ?_;rintro e wE ⟨AE,nE,cE,rfl,hsE,hfE,hbE⟩
 rw [zAH,zAH] at hsE;have hbwE:=zAA hbwD hbE;have k1E:=k1D.below hbE (by omega);have k3E:=k3D.below hbE (by omega);have HTE:=Zh (HTD.out.next hbE);have hzE:w.heap.size+3<=wE.heap.size:=by have:=hbE.size;omega
 have SV:Hid (zDB neg neg' (val l*2^(x - mn).toNat) (val l' * 2^(x' - mn).toNat) mn=zAu neg' (val l' * 2^q2 - val l*2^q1) mn):=by unfold Hid;rw [E1.out,E2.out];have hp:=HPQ.out;rw [E1.out,E2.out] at hp;rw [zDB,if_neg HSG.out,if_pos hp]
 generalize zDB neg neg' (val l*2^(x - mn).toNat) (val l' * 2^(x' - mn).toNat) mn=r at *;generalize val l' * 2^q2 - val l*2^q1=V at *;clear k1D k2D k3D HTD hzD hsC2 hsD hbE s0 s1 s2 t0 t1 t2 r0 r1 r2 f0 f1 f2 hbwD;obtain ⟨s0,s1,s2⟩:=k1E.cells3;obtain ⟨r0,r1,r2⟩:=k3E.cells3;have hnE:nE<=256:=by rw [<- hsE.len];exact HLE.out
 go_wp2_with fail
 refine (zAi neg' AE nE cE _ mn _ hsE hnE (by omega) (by omega) HTE.out).mono ?_;rintro e wF ⟨AF,nF,cF,rfl,hsF,hfF,hbF⟩
 rw [zAH] at hsF ⊢;have hnF:nF<=256:=by
  rw [<- hsF.len];unfold zAN
  split
  ·simp [zAZ]
  ·exact zCR (zAk V) HLE.out (by rw [zAH];exact Nat.div_le_self _ _)
 have HD:Hid (zAu neg' V mn=if inR (val (zAN neg' V mn).l) (zAN neg' V mn).e=true then (zAN neg' V mn,0) else (zAZ,9)):=rfl;have hrd:r=if inR (val (zAN neg' V mn).l) (zAN neg' V mn).e=true then (zAN neg' V mn,0) else (zAZ,9):=by rw [SV.out,HD.out]
 have HRD:=Zh hrd;clear hrd HD SV;generalize zAN neg' V mn=dd at *;by_cases hr:inR (val dd.l) dd.e=true
 ·have hrr:r=(dd,0):=by rw [HRD.out,if_pos hr]
  subst hrr;go_wp2_with fail
  refine (zBf dd.neg AF nF cF dd.l dd.e _ hsF (by omega) hr).mono ?_;rintro e wG ⟨rfl,hbG⟩
  have hbFG:=zAA hbF hbG;have k3G:=k3E.below hbFG (by omega);obtain ⟨v0,v1,v2⟩:=k3G.cells3;have g0:=k3G.frozen 0;have g1:=k3G.frozen 1;have g2:=k3G.frozen 2;have hzG:w.heap.size+3<=wG.heap.size:=by have:=hbFG.size;omega
  clear hr HRD;go_wp2_with fail
  refine Yn (zBI Tryz.results110 rfl (k3G.set3 _ _ _)) rfl ?_;have hsG:=hsF.below hbG;have hlt:w.heap.size+1+1<wE.heap.size:=by omega
  exact ⟨AF,nF,cF,rfl,(((hsG.far hfF hlt 0 _).far hfF hlt 1 _).far hfF hlt 2 _),hfF.mono (by omega),zAG (zAA hbwE hbFG) (by omega) _ _ _⟩
 ·have hrr:r=(zAZ,9):=by rw [HRD.out,if_neg hr]
  subst hrr;go_wp2_with fail
  refine (zBJ dd.neg AF nF cF dd.l dd.e _ hsF (by omega) (by simpa using hr)).mono ?_;rintro e wG ⟨rfl,hbG⟩
  have hbFG:=zAA hbF hbG;have k3G:=k3E.below hbFG (by omega);obtain ⟨v0,v1,v2⟩:=k3G.cells3;have g0:=k3G.frozen 0;have g1:=k3G.frozen 1;have g2:=k3G.frozen 2;have hzG:w.heap.size+3<=wG.heap.size:=by have:=hbFG.size;omega
  clear hr HRD;go_wp2_with fail
  refine Yn (zBI Tryz.results110 rfl (k3G.set3 _ _ _)) rfl ?_;exact ⟨none,0,0,rfl,SL.nil _,zAn.zero,zAG (zAA hbwE hbFG) (by omega) _ _ _⟩
theorem zGZ {neg:Bool}{l:List Nat}{x:Int}(hl:zAV l) (h:vld ⟨neg,l,x⟩=true):zAN neg (val l) x=⟨neg,l,x⟩:=by
 by_cases hne:l=[]
 ·subst hne
  rw [zEm] at h;simp at h;obtain ⟨h1,h2⟩:=h;subst h1 h2;rfl
 ·obtain ⟨b1,b2,b3,_⟩:=zAU h hne
  simp only at b1 b2 b3;rw [zCb (by omega),(tz_odd' b3).1];simp [zD3 l hl b2]
def zGM (d d':Dy):Dy×Int:=if d.l=[] then (d',0) else if d'.l=[] then (d,0) else
 zDB d.neg d'.neg (val d.l*2^(d.e - min d.e d'.e).toNat) (val d'.l*2^(d'.e - min d.e d'.e).toNat) (min d.e d'.e)
theorem zHM {neg:Bool}{w:World}{A:Option Addr}{n c:Nat}{l:List Nat}{x:Int}(h:SL w A n c l) (hv:vld ⟨neg,l,x⟩=true):n<=256/\-16384<=x/\x<=16384:=by
 by_cases hne:l=[]
 ·subst hne
  have:=h.len;rw [zEm] at hv;simp at hv this;omega
 ·obtain ⟨b1,b2,b3,b4,b5,b6,_⟩:=zAU hv hne
  simp only at b1 b5 b6;rw [h.len] at b1;exact ⟨b1,b5,b6⟩
theorem zPS (neg neg':Bool) (A B:Option Addr) (c m d:Nat) (l':List Nat) (x x':Int) (w:World) (h':SL w B m d l') (ht:zBx w) (hv':vld ⟨neg',l',x'⟩=true) :
  Calls Tryz.prog 110 #[.agg #[.bool neg,.slice A 0 c,.int .i64 x],.agg #[.bool neg',.slice B m d,.int .i64 x']] w (zJI ⟨neg',l',x'⟩ 0 w):=by
 obtain ⟨b1',b5',b6'⟩:=zHM h' hv';have HCV:=Zh (zGZ h'.lt hv');clear hv';obtain ⟨k1,k2,k3,k4,k5⟩:=zNO w 41 #[.bool neg',.slice B m d,.int .i64 x'] #[.bool neg',.slice B m d,.int .i64 x'] #[.bool false,.slice none 0 0,.int .i64 0];have h1':=h'.below k5;have HT:=Zh (ht.next k5);clear ht;go_enter Tryz.func110,Tryz.ntmps110
 go_wp2_with fail
 refine (zAi neg' B m d l' x' _ h1' b1' (by omega) (by omega) HT.out).mono ?_;rintro e wF ⟨AF,nF,cF,rfl,hsF,hfF,hbF⟩
 rw [HCV.out] at hsF ⊢;have k3G:=k3.below hbF (by omega);have hzF:w.heap.size+3<=wF.heap.size:=by have:=hbF.size;omega
 obtain ⟨v0,v1,v2⟩:=k3G.cells3;have g0:=k3G.frozen 0;have g1:=k3G.frozen 1;have g2:=k3G.frozen 2;go_wp2_with fail
 refine Yn (zBI Tryz.results110 rfl (k3G.set3 _ _ _)) rfl ?_;exact ⟨AF,nF,cF,rfl,(((hsF.far hfF (by omega) 0 _).far hfF (by omega) 1 _).far hfF (by omega) 2 _),hfF.mono (by omega),zAG (zAA k5 hbF) (by omega) _ _ _⟩
theorem zNF (neg neg':Bool) (A B:Option Addr) (n c d:Nat) (l:List Nat) (x x':Int) (w:World) (h:SL w A n c l) (ht:zBx w) (hv:vld ⟨neg,l,x⟩=true) (hne:n≠0) :
  Calls Tryz.prog 110 #[.agg #[.bool neg,.slice A n c,.int .i64 x],.agg #[.bool neg',.slice B 0 d,.int .i64 x']] w (zJI ⟨neg,l,x⟩ 0 w):=by
 obtain ⟨b1',b5',b6'⟩:=zHM h hv;have HCV:=Zh (zGZ h.lt hv);clear hv;have n0:((n:Int) == 0)=false:=by simp;omega
 obtain ⟨k1,k2,k3,k4,k5⟩:=zNO w 41 #[.bool neg,.slice A n c,.int .i64 x] #[.bool neg',.slice B 0 d,.int .i64 x'] #[.bool false,.slice none 0 0,.int .i64 0];have h1':=h.below k5;have HT:=Zh (ht.next k5);clear ht;go_enter Tryz.func110,Tryz.ntmps110
 go_wp2_with fail
 refine (zAi neg A n c l x _ h1' b1' (by omega) (by omega) HT.out).mono ?_;rintro e wF ⟨AF,nF,cF,rfl,hsF,hfF,hbF⟩
 rw [HCV.out] at hsF ⊢;have k3G:=k3.below hbF (by omega);have hzF:w.heap.size+3<=wF.heap.size:=by have:=hbF.size;omega
 obtain ⟨v0,v1,v2⟩:=k3G.cells3;have g0:=k3G.frozen 0;have g1:=k3G.frozen 1;have g2:=k3G.frozen 2;go_wp2_with fail
 refine Yn (zBI Tryz.results110 rfl (k3G.set3 _ _ _)) rfl ?_;exact ⟨AF,nF,cF,rfl,(((hsF.far hfF (by omega) 0 _).far hfF (by omega) 1 _).far hfF (by omega) 2 _),hfF.mono (by omega),zAG (zAA k5 hbF) (by omega) _ _ _⟩
theorem zPQ (neg neg':Bool) (A B:Option Addr) (n c m d:Nat) (l l':List Nat) (x x':Int) (w:World) (h:SL w A n c l) (h':SL w B m d l') (ht:zBx w)
  (hv:vld ⟨neg,l,x⟩=true) (hv':vld ⟨neg',l',x'⟩=true) :
  Calls Tryz.prog 110 #[.agg #[.bool neg,.slice A n c,.int .i64 x],.agg #[.bool neg',.slice B m d,.int .i64 x']] w
   (zJI (zGM ⟨neg,l,x⟩ ⟨neg',l',x'⟩).1 (zGM ⟨neg,l,x⟩ ⟨neg',l',x'⟩).2 w):=by
 by_cases hn:n=0
 ·have hl:=h.empty hn
  subst hn hl;have:=zPS neg neg' A B c m d l' x x' w h' ht hv'
  rwa [zGM,if_pos rfl]
 by_cases hm:m=0
 ·have hl:=h'.empty hm
  subst hm hl;have:=zNF neg neg' A B n c d l x x' w h ht hv hn
  rwa [zGM,if_neg ((zAL h).2 hn),if_pos rfl]
 rw [zGM,if_neg ((zAL h).2 hn),if_neg ((zAL h').2 hm)];simp only;by_cases he:4097<max ((zAT (val l):Int)+x) ((zAT (val l'):Int)+x') - min x x'
 ·by_cases hd:1<((zAT (val l):Int)+x) - ((zAT (val l'):Int)+x')\/1<((zAT (val l'):Int)+x') - ((zAT (val l):Int)+x)
  ·obtain ⟨_,_,b3,b4,_⟩:=zAU hv ((zAL h).2 hn)
   obtain ⟨_,_,b3',b4',_⟩:=zAU hv' ((zAL h').2 hm);rw [zPR b3 b3' b4 b4' rfl he hd];exact zI8 neg neg' A B n c m d l l' x x' _ w h h' ht hv hv' hn hm rfl ⟨he,hd⟩
  ·have hd1:¬ 1<((zAT (val l):Int)+x) - ((zAT (val l'):Int)+x'):=fun g=>hd (.inl g)
   have hd2:¬ 1<((zAT (val l'):Int)+x') - ((zAT (val l):Int)+x):=fun g=>hd (.inr g)
   by_cases hs:neg=neg'
   ·exact zNH neg neg' A B n c m d l l' x x' _ w h h' ht hv hv' hn hm rfl he hd1 hd2 hs
   ·by_cases hp:val l*2^(x - min x x').toNat<val l' * 2^(x' - min x x').toNat
    ·exact zQ0 neg neg' A B n c m d l l' x x' _ w h h' ht hv hv' hn hm rfl he hd1 hd2 hs hp
    ·exact zQy neg neg' A B n c m d l l' x x' _ w h h' ht hv hv' hn hm rfl he hd1 hd2 hs hp
 ·by_cases hs:neg=neg'
  ·exact zNG neg neg' A B n c m d l l' x x' _ w h h' ht hv hv' hn hm rfl he hs
  ·by_cases hp:val l*2^(x - min x x').toNat<val l' * 2^(x' - min x x').toNat
   ·exact zQz neg neg' A B n c m d l l' x x' _ w h h' ht hv hv' hn hm rfl he hs hp
   ·exact zQx neg neg' A B n c m d l l' x x' _ w h h' ht hv hv' hn hm rfl he hs hp
def zCP (d d':Dy):Dy×Int:=if vld d=true/\vld d' = true then zGM d d' else (zAZ,1)
theorem zIO (neg neg':Bool) (A B:Option Addr) (n c m d:Nat) (l l':List Nat) (x x':Int) (w:World) (h:SL w A n c l) (h':SL w B m d l') (ht:zBx w) (hn:n<=1000000) (hm:m<=1000000) :
  Calls Tryz.prog 53 #[.agg #[.bool neg,.slice A n c,.int .i64 x],.agg #[.bool neg',.slice B m d,.int .i64 x']] w
   (zJI (zCP ⟨neg,l,x⟩ ⟨neg',l',x'⟩).1 (zCP ⟨neg,l,x⟩ ⟨neg',l',x'⟩).2 w):=by
 have HA:Hid (zCP ⟨neg,l,x⟩ ⟨neg',l',x'⟩=if vld ⟨neg,l,x⟩=true/\vld ⟨neg',l',x'⟩=true then zGM ⟨neg,l,x⟩ ⟨neg',l',x'⟩ else (zAZ,1)):=rfl;generalize zCP ⟨neg,l,x⟩ ⟨neg',l',x'⟩=r at *;have HS:Hid (vld ⟨neg,l,x⟩=true->vld ⟨neg',l',x'⟩=true->∀W,SL W A n c l->SL W B m d l'->zBx W->Calls Tryz.prog 110 #[.agg #[.bool neg,.slice A n c,.int .i64 x],.agg #[.bool neg',.slice B m d,.int .i64 x']] W
   (zJI (zGM ⟨neg,l,x⟩ ⟨neg',l',x'⟩).1 (zGM ⟨neg,l,x⟩ ⟨neg',l',x'⟩).2 W)):=fun hv hv' W h1 h2 h3=>zPQ neg neg' A B n c m d l l' x x' W h1 h2 h3 hv hv'
 generalize zGM ⟨neg,l,x⟩ ⟨neg',l',x'⟩=sd at *;obtain ⟨k1,k2,k3,k4,k5⟩:=zNO w 41 #[.bool neg,.slice A n c,.int .i64 x] #[.bool neg',.slice B m d,.int .i64 x'] #[.bool false,.slice none 0 0,.int .i64 0];have h1:=h.below k5;have h1':=h'.below k5;have HT:=Zh (ht.next k5);clear ht;generalize hv:vld ⟨neg,l,x⟩=v at *;generalize hv':vld ⟨neg',l',x'⟩=v' at *;have HV:=Zh hv;have HV':=Zh hv';clear hv hv';go_enter Tryz.func53,Tryz.ntmps53
 go_wp2_with fail
 generalize ((w.alloc (.cells #[.bool neg,.slice A n c,.int .i64 x] 41)).alloc (.cells #[.bool neg',.slice B m d,.int .i64 x'] 41)).alloc (.cells #[.bool false,.slice none 0 0,.int .i64 0] 41)=W0 at *;refine (zA4 neg A n c l x _ h1 (by omega)).mono ?_;rintro e w1 ⟨rfl,hb1⟩
 rw [HV.out];have j1:=k1.below hb1 (by omega);have j2:=k2.below hb1 (by omega);have j3:=k3.below hb1 (by omega);have hz1:w.heap.size+3<=w1.heap.size:=by have:=hb1.size;omega
 have h2:=h1.below hb1;have h2':=h1'.below hb1;have HT1:=Zh (HT.out.next hb1);have hbw:=zAA k5 hb1;obtain ⟨s0,s1,s2⟩:=j1.cells3;obtain ⟨t0,t1,t2⟩:=j2.cells3;obtain ⟨r0,r1,r2⟩:=j3.cells3;have f0:=j3.frozen 0;have f1:=j3.frozen 1;have f2:=j3.frozen 2;clear k1 k2 k3 k4 h1 h1' HT hb1;cases v
 ·have hr:r=(zAZ,1):=by rw [HA.out];simp
  subst hr;clear HA HS;go_wp2_with fail
  refine Yn (zBI Tryz.results53 rfl (j3.set3 _ _ _)) rfl ?_;exact ⟨none,0,0,rfl,SL.nil _,zAn.zero,zAG hbw (by omega) _ _ _⟩
 ·go_wp2_with fail
  refine (zA4 neg' B m d l' x' _ h2' (by omega)).mono ?_;rintro e w2 ⟨rfl,hb2⟩
  rw [HV'.out];have i1:=j1.below hb2 (by omega);have i2:=j2.below hb2 (by omega);have i3:=j3.below hb2 (by omega);have hz2:w.heap.size+3<=w2.heap.size:=by have:=hb2.size;omega
  have h3:=h2.below hb2;have h3':=h2'.below hb2;have HT2:=Zh (HT1.out.next hb2);have hbw2:=zAA hbw hb2;clear s0 s1 s2 t0 t1 t2 r0 r1 r2 f0 f1 f2 j1 j2 j3 h2 h2' HT1 hb2 hbw hz1;obtain ⟨s0,s1,s2⟩:=i1.cells3;obtain ⟨t0,t1,t2⟩:=i2.cells3;obtain ⟨r0,r1,r2⟩:=i3.cells3;have f0:=i3.frozen 0;have f1:=i3.frozen 1;have f2:=i3.frozen 2;cases v'
  ·have hr:r=(zAZ,1):=by rw [HA.out];simp
   subst hr;clear HA HS;go_wp2_with fail
   refine Yn (zBI Tryz.results53 rfl (i3.set3 _ _ _)) rfl ?_;exact ⟨none,0,0,rfl,SL.nil _,zAn.zero,zAG hbw2 (by omega) _ _ _⟩
  ·have hr:r=sd:=by rw [HA.out];simp
   subst hr;clear HA;go_wp2_with fail
   refine (HS.out (by simp) (by simp) _ h3 h3' HT2.out).mono ?_;rintro e w3 ⟨A3,n3,c3,rfl,hs3,hf3,hb3⟩
   have g3:=i3.below hb3 (by omega);obtain ⟨v0,v1,v2⟩:=g3.cells3;have e0:=g3.frozen 0;have e1:=g3.frozen 1;have e2:=g3.frozen 2;have hz3:w.heap.size+3<=w3.heap.size:=by have:=hb3.size;omega
   go_wp2_with fail
   refine Yn (zBI Tryz.results53 rfl (g3.set3 _ _ _)) rfl ?_;exact ⟨A3,n3,c3,rfl,(((hs3.far hf3 (by omega) 0 _).far hf3 (by omega) 1 _).far hf3 (by omega) 2 _),hf3.mono (by omega),zAG (zAA hbw2 hb3) (by omega) _ _ _⟩
def zNQ (n:Int):Dy:=zAN (decide (n<0)) n.natAbs 0
theorem zPb (k:Nat):val [k%4294967296,k / 4294967296]=k:=by simp [val];omega
theorem SL.two (w:World) (t:TypeId) (x y:Nat) (hx:x<4294967296) (hy:y<4294967296):SL (w.alloc (.cells #[.int .u32 (x:Int),.int .u32 (y:Int)] t)) (some ⟨w.heap.size,0,none⟩) 2 2 [x,y]:=
 ⟨rfl,by omega,by omega,fun z hz=>by simp at hz;omega,fun _=>⟨_,_,rfl,by simp,fun j z hz=>by
  rcases j with _ | _ | j
  ·simp at hz;subst hz;simp
  ·simp at hz;subst hz;simp
  ·simp at hz⟩⟩
theorem zEe (k:Nat) (w:World) (hk:k<9223372036854775808) (ht:zBx w) :
  Calls Tryz.prog 99 #[.int .i64 (k:Int)] w (zNV (zNQ k) w):=by
 have HI:Hid (zNQ k=zAN false (val [k%4294967296,k / 4294967296]) 0):=by
  unfold Hid zNQ;rw [zPb,show decide ((k:Int)<0)=false from by simp,Int.natAbs_natCast]
 have HT:=Zh ht;clear ht;have e1:(k:Int)%4294967296=((k%4294967296:Nat):Int):=by omega
 have e2:(k:Int) / 4294967296=((k / 4294967296:Nat):Int):=by omega
 have E1:=Zh e1;have E2:=Zh e2;clear e1 e2;have hdk:decide ((k:Int)<0)=false:=by simp
 go_enter Tryz.func99,Tryz.ntmps99
 go_wp2_with fail
 have e1:=E1.out;have e2:=E2.out;rw [e1,e2];clear e1 e2;have hs0:=SL.two (w.alloc (.cells #[.bool false,.slice none 0 0,.int .i64 0] 41)) 109 (k%4294967296) (k / 4294967296) (by omega) (by omega);rw [World.size_alloc] at hs0;have hb0:Below w.heap.size w ((w.alloc (.cells #[.bool false,.slice none 0 0,.int .i64 0] 41)).alloc (.cells #[.int .u32 ((k%4294967296:Nat):Int),.int .u32 ((k / 4294967296:Nat):Int)] 109)):=(zAE _ _).alloc (by simp) _;have k1:=(Blk.new w 41 #[.bool false,.slice none 0 0,.int .i64 0]).alloc (.cells #[.int .u32 ((k%4294967296:Nat):Int),.int .u32 ((k / 4294967296:Nat):Int)] 109);have hz0:w.heap.size+2<=((w.alloc (.cells #[.bool false,.slice none 0 0,.int .i64 0] 41)).alloc (.cells #[.int .u32 ((k%4294967296:Nat):Int),.int .u32 ((k / 4294967296:Nat):Int)] 109)).heap.size:=by simp
 generalize (w.alloc (.cells #[.bool false,.slice none 0 0,.int .i64 0] 41)).alloc (.cells #[.int .u32 ((k%4294967296:Nat):Int),.int .u32 ((k / 4294967296:Nat):Int)] 109)=W0 at *;refine (zAi false _ 2 2 _ 0 _ hs0 (by omega) (by omega) (by omega) (HT.out.next hb0)).mono ?_;rintro e w1 ⟨A1,n1,c1,rfl,hs1,hf1,hb1⟩
 rw [<- HI.out] at hs1 ⊢;have j1:=k1.below hb1 (by omega);obtain ⟨s0,s1,s2⟩:=j1.cells3;have f0:=j1.frozen 0;have f1:=j1.frozen 1;have f2:=j1.frozen 2;have hz1:w.heap.size+2<=w1.heap.size:=by have:=hb1.size;omega
 go_wp2_with fail
 refine Yn (zHV Tryz.results99 rfl (j1.set3 _ _ _)) rfl ?_;exact ⟨A1,n1,c1,rfl,(((hs1.far hf1 (by omega) 0 _).far hf1 (by omega) 1 _).far hf1 (by omega) 2 _),hf1.mono (by omega),zAG (zAA hb0 hb1) (by omega) _ _ _⟩
theorem zQH (k:Nat) (w:World) (hk:k<=9223372036854775808) (h0:0<k) (ht:zBx w) :
  Calls Tryz.prog 99 #[.int .i64 (-(k:Int))] w (zNV (zNQ (-(k:Int))) w):=by
 have HI:Hid (zNQ (-(k:Int))=zAN true (val [k%4294967296,k / 4294967296]) 0):=by
  unfold Hid zNQ;rw [zPb,show decide (-(k:Int)<0)=true from by simp;omega,Int.natAbs_neg,Int.natAbs_natCast]
 have HT:=Zh ht;clear ht;have e1:(k:Int)%4294967296=((k%4294967296:Nat):Int):=by omega
 have e2:(k:Int) / 4294967296=((k / 4294967296:Nat):Int):=by omega
 have E1:=Zh e1;have E2:=Zh e2;clear e1 e2;have hwk:IntKind.u64.wrap (-IntKind.u64.wrap (-(k:Int)))=(k:Int):=by
  simp only [IntKind.wrap,IntKind.bits,IntKind.signed];simp;omega
 have hm:(k:Int) / 4294967296%4294967296=(k:Int) / 4294967296:=by omega
 go_enter Tryz.func99,Tryz.ntmps99
 go_wp2_with fail
 have e1:=E1.out;have e2:=E2.out;rw [e1,e2];clear e1 e2;have hs0:=SL.two (w.alloc (.cells #[.bool false,.slice none 0 0,.int .i64 0] 41)) 109 (k%4294967296) (k / 4294967296) (by omega) (by omega);rw [World.size_alloc] at hs0;have hb0:Below w.heap.size w ((w.alloc (.cells #[.bool false,.slice none 0 0,.int .i64 0] 41)).alloc (.cells #[.int .u32 ((k%4294967296:Nat):Int),.int .u32 ((k / 4294967296:Nat):Int)] 109)):=(zAE _ _).alloc (by simp) _;have k1:=(Blk.new w 41 #[.bool false,.slice none 0 0,.int .i64 0]).alloc (.cells #[.int .u32 ((k%4294967296:Nat):Int),.int .u32 ((k / 4294967296:Nat):Int)] 109);have hz0:w.heap.size+2<=((w.alloc (.cells #[.bool false,.slice none 0 0,.int .i64 0] 41)).alloc (.cells #[.int .u32 ((k%4294967296:Nat):Int),.int .u32 ((k / 4294967296:Nat):Int)] 109)).heap.size:=by simp
 generalize (w.alloc (.cells #[.bool false,.slice none 0 0,.int .i64 0] 41)).alloc (.cells #[.int .u32 ((k%4294967296:Nat):Int),.int .u32 ((k / 4294967296:Nat):Int)] 109)=W0 at *;refine (zAi true _ 2 2 _ 0 _ hs0 (by omega) (by omega) (by omega) (HT.out.next hb0)).mono ?_;rintro e w1 ⟨A1,n1,c1,rfl,hs1,hf1,hb1⟩
 rw [<- HI.out] at hs1 ⊢;have j1:=k1.below hb1 (by omega);obtain ⟨s0,s1,s2⟩:=j1.cells3;have f0:=j1.frozen 0;have f1:=j1.frozen 1;have f2:=j1.frozen 2;have hz1:w.heap.size+2<=w1.heap.size:=by have:=hb1.size;omega
 go_wp2_with fail
 refine Yn (zHV Tryz.results99 rfl (j1.set3 _ _ _)) rfl ?_;exact ⟨A1,n1,c1,rfl,(((hs1.far hf1 (by omega) 0 _).far hf1 (by omega) 1 _).far hf1 (by omega) 2 _),hf1.mono (by omega),zAG (zAA hb0 hb1) (by omega) _ _ _⟩
theorem zT7:zNQ 1=⟨false,[1],0⟩:=by kernel_rfl
theorem zSW (w:World) (ht:zBx w):Calls Tryz.prog 99 #[.int .i64 1] w (zNV ⟨false,[1],0⟩ w):=by
 have:=zEe 1 w (by omega) ht;rw [show zNQ ((1:Nat):Int)=⟨false,[1],0⟩ from zT7] at this;exact this
open Go.ChangeShapes Go.WideShapes Go.ChangeAt
theorem zf6:ownKnob Tryz.prog.godebug=none:=by kernel_rfl
theorem zQN:laidOutB Tryz.prog=true:=by kernel_rfl
theorem zf5:Tryz.prog.globalNamed "math/bits.deBruijn32tab" = some 1:=by kernel_rfl
theorem zQA:(Tryz.prog.globals[1]?).map (·.type)=some 361:=by kernel_rfl
theorem zPw:Tryz.prog.cellsOf 361=32:=by kernel_rfl
theorem cells8:Tryz.prog.cellsOf 5=1:=by kernel_rfl
theorem zR9:Tryz.prog.cellsOf 109=1:=by kernel_rfl
theorem zJV:Tryz.prog.cellsOf 41=3:=by kernel_rfl
def zPT:List Int:=Lib.deBruijn32tab.map (fun n:Nat=>(n:Int))
def zPU:List Int:=Lib.deBruijn64tab.map (fun n:Nat=>(n:Int))
theorem zTU {W:World}{rest:List (String×DataW Unit)}(h:laidMet Tryz.prog (("math/bits.deBruijn32tab",Rows.laid_math_bits_deBruijn32tab)::rest) W):zBx W:=by
 have h':laidMet Tryz.prog (("math/bits.deBruijn32tab",Lib.tabData .u8 zPT)::rest) W:=h;have ht:=Lib.tabIs_of_head (rest:=rest) zf5 zQA Tryz.underlying361 Tryz.underlying5 cells8 zPw h';intro j hj;have hj':j<zPT.length:=by simpa [zPT] using hj
 have:=ht.cell zf5 j hj';rw [this]
 congr 2
 simp [zPT,List.getD,hj]
theorem zIG {H:Type}{enc:TypeId×Value->H}{W:World}{base fuel:Nat}{v:Value}{x:DataW H×List MemPlace}(hf:DataW.trod enc Tryz.prog W base (fun _=>true) true fuel 39 [v]=some x) :
  ∃A n c l,v=.slice A n c/\SL W A n c l:=by
 rcases open_ints Tryz.underlying39 Tryz.underlying109 zR9 hf with ⟨hcs,_⟩ | ⟨a,len,cap,zs,hcs,_,hl,hm,hz,_,hcell,hwz⟩
 ·injection hcs with e _
  exact ⟨none,0,0,[],e,SL.nil W⟩
 ·injection hcs with e _
  rw [if_pos rfl] at hz;refine ⟨some a,len,cap,(zs.take len).map Int.toNat,e,⟨by simp [hz];omega,hl,by simpa [maxLen] using hm,?_,?_⟩⟩
  ·intro y hy
   obtain ⟨z,hz1,rfl⟩:=List.mem_map.1 hy;have:=bounds_u32 (hwz z (List.mem_of_mem_take hz1));omega
  ·intro hn
   obtain ⟨b,off,rfl,hc⟩:=ints_at hcell (by omega);have hlt:b<W.heap.size:=by
    have:=hc 0 (by omega);rcases Xj b W.heap.size with hlt | hge
    ·exact hlt
    ·simp [World.cell?,Array.getElem?_eq_none hge] at this
   refine ⟨b,off,rfl,hlt,fun j y hy=>?_⟩;have hj:j<len:=by
    rcases Xj j len with h' | h'
    ·exact h'
    ·rw [Yy (by simp;omega)] at hy;cases hy
   have hzj:zs[j]? = some zs[j]:=Yo (by omega);have hw:=bounds_u32 (hwz zs[j] (List.getElem_mem (by omega)));have hy2:y=(zs[j]).toNat:=by
    rw [List.getElem?_map,Xf hj,hzj] at hy
    simpa using hy.symm
   rw [hc j (by omega)];simp only [List.getD,hzj,Option.getD_some,hy2]
   congr 2
   omega
theorem stays {H:Type}{enc:TypeId×Value->H}{t:TypeId}{W W':World}{sp:Nat->Bool}{v:Value}{d:DataW H}{ps:List MemPlace}(hr:Tryz.prog.readableRec t=true) (hrow:decide (t<Tryz.prog.types.size)=true)
  (h:DataW.Trod enc Tryz.prog W 0 (fun _=>true) true t v d ps) (hb:Below W.heap.size W W') (hlt:∀x∈ps,x.block<W.heap.size) (hsp:∀x∈ps,sp x.block=true):DataW.Trod enc Tryz.prog W' 0 sp true t v d ps:=
 WideElems.Trod_stays zQN hr (of_decide_eq_true hrow) h (fun x hx=>hb.same (hlt x hx)) hsp
section
variable {H:Type}{enc:TypeId×Value->H}{P:Program}
theorem zFA {f:Func}{s:ChangeSpec}{apart fresh handsOn again:Bool}{W W':World}{args:Array Value}{v:Value}{ds gs:List (DataW H)}{before pa pv:List MemPlace}
  (hW:DataW.Whole enc P f.params.toList s.vars apart W args.toList ds gs before)
  (hres:∀ (b:Nat) (sp:Nat->Bool) (hd:Bool),DataW.TrodAll enc P W' b sp hd f.resultTypes.toList (v.resultList f.resultTypes.size) (s.fn H (ds++gs)).results [])
  (hargs:∀sp:Nat->Bool,(∀p∈before,sp p.block=true)->DataW.TrodAll enc P W' 0 sp true f.params.toList args.toList (s.fn H (ds++gs)).args pa)
  (hvars:∀sp:Nat->Bool,(∀p∈before,sp p.block=true)->DataW.TrodVars enc P W' sp s.vars (s.fn H (ds++gs)).vars pv)
  (hps:before=pa++pv) (hb:Below W.heap.size W W')
  (hok:∀ (j:Nat) (t:TypeId) (r:Value),f.resultTypes[j]? = some t->(v.resultList f.resultTypes.size)[j]? = some r->Value.okWide P W' .any 0 t r) :
  s.post enc P f apart fresh handsOn again W args v W':=by
 have hlt:∀p∈before,p.block<W.heap.size:=fun p hp=>hW.lt p hp
 have hold:∀p∈before,(fun b=>decide (b<W.heap.size)) p.block=true:=fun p hp=>by simpa using hlt p hp
 refine ⟨ds,gs,before,[],pa,pv,hW,hres _ _ _,hargs _ hold,hvars _ hold,World.keptBut_mono (fun p hp=>⟨hp,?_⟩) (hb.frame (· ∈ before)),fun _=>?_⟩
 ·rw [hps,Yt] at hp
  exact Or.inr hp
 ·obtain ⟨_,_,_,_,_,hz,hn⟩:=hW
  refine ⟨hok,_,_,([]++pa)++pv,⟨[]++pa,pv,trodAll_append (hargs _ (fun _ _=>rfl)) (hres _ _ _),hvars _ (fun _ _=>rfl),rfl,?_,?_⟩,?_⟩
  ·intro b off hp
   have hin:MemPlace.cell b off∈before:=by rw [hps];simpa using hp
   rw [hb.frozen (hlt _ hin)];exact hz b off hin
  ·intro ha
   have:=hn ha;rw [hps] at this
   simpa using this
  ·intro p hp _
   rw [hps]
   simpa using hp
end
def zJ8 (cs:Array Value):Obj->Obj
 | .cells _ t frozen=>.cells cs t frozen
 | o=>o
theorem zKp {H:Type}{enc:TypeId×Value->H}{W:World}{base fuel:Nat}{v:Value}{x:DataW H×List MemPlace}(hf:DataW.trod enc Tryz.prog W base (fun _=>true) true fuel 4 [v]=some x):∃b:Bool,v=.bool b:=by
 obtain ⟨b,h,_⟩:=DataW.trod_bool Tryz.underlying4 hf;injection h with e _
 exact ⟨b,e⟩
theorem zLh {H:Type}{enc:TypeId×Value->H}{W:World}{base fuel:Nat}{v:Value}{x:DataW H×List MemPlace}(hf:DataW.trod enc Tryz.prog W base (fun _=>true) true fuel 3 [v]=some x):∃n:Int,v=.int .i64 n:=by
 obtain ⟨n,h,_⟩:=DataW.trod_int Tryz.underlying3 hf;injection h with e _
 exact ⟨n,e⟩
theorem zHC (neg:Bool) (A:Option Addr) (n c:Nat) (l:List Nat) (x:Int) (w:World) (h:SL w A n c l) (hv:vld ⟨neg,l,x⟩=true) :
  Calls Tryz.prog 55 #[.agg #[.bool neg,.slice A n c,.int .i64 x]] w fun e w'=>e=.returned (.int .i64 (zBP ⟨neg,l,x⟩))/\Below w.heap.size w w':=by
 have HB:Hid (zBP ⟨neg,l,x⟩=if n≠0 then (if neg then -1 else 1) else 0):=by
  unfold Hid zBP;simp only [zAL h,hv,true_and]
 generalize zBP ⟨neg,l,x⟩=r at *;by_cases h0:n=0
 ·subst h0
  go_enter Tryz.func55,Tryz.ntmps55
  go_wp2_with fail
  go_ret;exact ⟨by rw [HB.out];rfl,zAE _ _⟩
 ·have h0':((n:Int) == 0)=false:=by simp;omega
  cases neg
  all_goals
   go_enter Tryz.func55,Tryz.ntmps55
   go_wp2_with fail
   go_ret;exact ⟨by rw [HB.out,if_pos h0];rfl,zAE _ _⟩
theorem zQ8 {neg:Bool}{l:List Nat}{x:Int}(hv:vld ⟨neg,l,x⟩=true):zKd l:=by
 by_cases hn:l=[]
 ·subst hn;simp [zKd]
 ·exact (zAU hv hn).2.1
theorem zCE (neg:Bool) (A:Option Addr) (n c:Nat) (l:List Nat) (x:Int) (w:World) (h:SL w A n c l) (hn:n<=1000000) (hv:vld ⟨neg,l,x⟩=true) :
  Calls Tryz.prog 307 #[.agg #[.bool neg,.slice A n c,.int .i64 x]] w fun e w'=>e=.returned (.int .i64 (zCU ⟨neg,l,x⟩))/\Below w.heap.size w w':=by
 have HB:Hid (zCU ⟨neg,l,x⟩=if n≠0 then (zAT (val l):Int)+x else 0):=by
  unfold Hid zCU;simp only [zAL h,hv,true_and]
 have HBD:Hid (n≠0->zAT (val l)<=4096/\-16384<=x/\x<=16384):=fun h2=>by
  have:=zAU hv ((zAL h).2 h2);exact ⟨this.2.2.2.1,this.2.2.2.2.1,this.2.2.2.2.2.1⟩
 have HTr:=Zh (zQ8 hv);generalize zCU ⟨neg,l,x⟩=r at *;have h1:=h.alloc (.cells #[.bool neg,.slice A n c,.int .i64 x] 41);by_cases h0:n=0
 ·subst h0
  go_enter Tryz.func307,Tryz.ntmps307
  go_wp2_with fail
  go_ret;exact ⟨by rw [HB.out];rfl,zAE _ _⟩
 ·have h0':((n:Int) == 0)=false:=by simp;omega
  obtain ⟨hb3,hb4,hb5⟩:=HBD.out h0;have HB2:Hid (r=(zAT (val l):Int)+x):=by unfold Hid;rw [HB.out,if_pos h0]
  clear hv;generalize hN:zAT (val l)=N at *;have HN:=Zh hN;clear hN;have hw:IntKind.i64.wrap ((N:Int)+x)=(N:Int)+x:=IntWalk.i64_in _ (by omega);go_enter Tryz.func307,Tryz.ntmps307
  go_wp2_with fail
  have c0:=(Blk.new w 41 #[.bool neg,.slice A n c,.int .i64 x]).cells3;obtain ⟨-,c1,c2⟩:=c0;have HQ:Hid (∀q,Calls Tryz.prog 116 #[.slice A n c] ((w.alloc (.cells #[.bool neg,.slice A n c,.int .i64 x] 41)).drewN q) fun e w'=>e=.returned (.int .i64 (N:Int))/\w' = (w.alloc (.cells #[.bool neg,.slice A n c,.int .i64 x] 41)).drewN q):=fun q=>by
   have:=zG8 A n c l _ (h1.drewN q) hn HTr.out;rw [HN.out] at this;exact this.mono (fun e w' ⟨he,hw⟩=>⟨he,hw.symm⟩)
  have hbb:=zAE w (.cells #[.bool neg,.slice A n c,.int .i64 x] 41);generalize w.alloc (.cells #[.bool neg,.slice A n c,.int .i64 x] 41)=W at *
  go_quiet ((go_at_call 116;exact Calls.quiet_of_same (HQ.out _)))
  go_wp2_with fail
  go_ret;exact ⟨by rw [HB2.out];rfl,zAR hbb _⟩
def zFi (d:Dy):Dy:=⟨!d.neg && decide (d.l≠[]),d.l,d.e⟩
theorem zLJ (d:Dy) (hv:vld d=true):zFi d=zEL d:=by
 obtain ⟨neg,l,x⟩:=d;by_cases hl:l=[]
 ·subst hl
  rw [zEm] at hv;simp at hv;obtain ⟨rfl,rfl⟩:=hv;rfl
 ·unfold zFi zEL
  rw [if_pos ⟨hv,hl⟩];simp [hl]
theorem Blk.newAt (w:World) (t:TypeId) (cs:Array Value) {g:Nat}(hg:g=w.heap.size):Blk (w.alloc (.cells cs t)) g t cs:=by
 subst hg;exact Blk.new w t cs
theorem zMB (neg:Bool) (A:Option Addr) (n c:Nat) (l:List Nat) (x:Int) (w:World) (h:SL w A n c l) :
  Calls Tryz.prog 58 #[.agg #[.bool neg,.slice A n c,.int .i64 x]] w fun e w'=>e=.returned (.agg #[.bool (zFi ⟨neg,l,x⟩).neg,.slice A n c,.int .i64 x])/\Below w.heap.size w w':=by
 have HB:Hid ((zFi ⟨neg,l,x⟩).neg=(!neg && decide (n≠0))):=by
  unfold Hid zFi;simp only []
  congr 1
  exact Xk.2 (zAL h)
 rw [HB.out];cases neg
 ·by_cases h0:n=0
  ·subst h0
   rw [show (!false && decide (0≠0))=false from rfl];go_enter Tryz.func58,Tryz.ntmps58
   go_wp2_with fail
   refine Yn (zHV Tryz.results58 rfl (Blk.newAt _ _ _ (by simp))) rfl ?_;exact ⟨by first | rfl | rw [h0n],(zAE w _).alloc (by simp) _⟩
  ·have h0':decide (0<(n:Int))=true:=by simp;omega
   have h0'':decide (n≠0)=true:=by simp;omega
   have h0n:decide (0<n)=true:=by simp;omega
   rw [h0'',show (!false && true)=true from rfl];go_enter Tryz.func58,Tryz.ntmps58
   go_wp2_with fail
   refine Yn (zHV Tryz.results58 rfl (Blk.newAt _ _ _ (by simp))) rfl ?_;exact ⟨by first | rfl | rw [h0n],(zAE w _).alloc (by simp) _⟩
 ·rw [show (!true && decide (n≠0))=false from rfl]
  go_enter Tryz.func58,Tryz.ntmps58
  go_wp2_with fail
  refine Yn (zHV Tryz.results58 rfl (Blk.newAt _ _ _ (by simp))) rfl ?_;exact ⟨by first | rfl | rw [h0n],(zAE w _).alloc (by simp) _⟩
def Off (A:Option Addr) (n g:Nat):Prop:=0<n->∃ad,A=some ad/\ad.block≠g
theorem Off.fresh {A:Option Addr}{n g B:Nat}(h:zAn B A n) (hg:g<B):Off A n g:=fun hn=>by
 obtain ⟨ad,e,hb⟩:=h hn;exact ⟨ad,e,by omega⟩
theorem Off.old {w:World}{A:Option Addr}{n c g:Nat}{l:List Nat}(h:SL w A n c l) (hg:w.heap.size<=g):Off A n g:=fun hn=>by
 obtain ⟨b,off,e,hb,_⟩:=h.at_ hn;exact ⟨_,e,by simp only;omega⟩
theorem SL.off {w:World}{A:Option Addr}{n c g:Nat}{l:List Nat}(h:SL w A n c l) (hf:Off A n g) (i:Nat) (x:Value):SL (w.setCell ⟨g,i,none⟩ x) A n c l:=by
 refine ⟨h.len,h.cap,h.max,h.lt,fun hn=>?_⟩;obtain ⟨b,off,rfl,hb,hc⟩:=h.at_ hn;obtain ⟨ad,e,hB⟩:=hf hn;injection e with e
 subst e;have hB:b≠g:=hB;refine ⟨b,off,rfl,by simpa [World.setCell] using hb,fun j y hy=>?_⟩;rw [World.cell?_setCell_other _ _ _ _ (by intro e;injection e with e1;omega)];exact hc j y hy
theorem SL.off3 {w:World}{A:Option Addr}{n c g:Nat}{l:List Nat}(h:SL w A n c l) (hf:Off A n g) (x0 x1 x2:Value):SL (((w.setCell ⟨g,0,none⟩ x0).setCell ⟨g,1,none⟩ x1).setCell ⟨g,2,none⟩ x2) A n c l:=
 ((h.off hf 0 x0).off hf 1 x1).off hf 2 x2
theorem Blk.off3 {w:World}{g g':Nat}{t:TypeId}{cs:Array Value}(h:Blk w g' t cs) (hg:g' ≠ g) (x0 x1 x2:Value):Blk (((w.setCell ⟨g,0,none⟩ x0).setCell ⟨g,1,none⟩ x1).setCell ⟨g,2,none⟩ x2) g' t cs:=
 ((h.far (p:=⟨g,0,none⟩) hg x0).far (p:=⟨g,1,none⟩) hg x1).far (p:=⟨g,2,none⟩) hg x2
end Go.Proofs.YtchkfjgcbbbffaaGreatDoor
end
