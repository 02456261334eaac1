/- Bundle 12: what the law's walk stands on: C7, C8, C9, C10, C11, C12. -/
import Derived.Test.YtchkfjgcbbbffaaGreatDoorZ11
set_option maxRecDepth 100000
set_option maxHeartbeats 20000000
set_option linter.all false
noncomputable section
namespace Go.Proofs.YtchkfjgcbbbffaaGreatDoor
open Go.RowKit Pl Go.Shelf
def zRi (d:Dy):Int:=if d.l=[] then 0 else if d.neg then -1 else 1
theorem zOw (neg:Bool) (A:Option Addr) (n c:Nat) (l:List Nat) (x:Int) (w:World) (h:SL w A n c l) :
  Calls Tryz.prog 55 #[.agg #[.bool neg,.slice A n c,.int .i64 x]] w fun e w'=>e=.returned (.int .i64 (zRi ⟨neg,l,x⟩))/\Below w.heap.size w w':=by
 have HB:Hid (zRi ⟨neg,l,x⟩=if n≠0 then (if neg then -1 else 1) else 0):=by
  unfold Hid zRi;by_cases hl:l=[]
  ·rw [if_pos hl,if_neg (by rw [<- h.len,hl];simp)]
  ·rw [if_neg hl,if_pos ((zAL h).1 hl)]
 generalize zRi ⟨neg,l,x⟩=r at *;by_cases h0:n=0
 ·subst h0
  go_enter Tryz.func55,Tryz.ntmps55
  go_wp2_with fail
  go_ret;exact ⟨by rw [HB.out];rfl,zAE _ _⟩
 ·have h0':((n:Int) == 0)=false:=by simp;omega
  cases neg
  all_goals
   go_enter Tryz.func55,Tryz.ntmps55
   go_wp2_with fail
   go_ret;exact ⟨by rw [HB.out,if_pos h0];rfl,zAE _ _⟩
theorem zFj (n:Bool) (v:Nat) (e:Int):zRi (zAN n v e)=if v=0 then 0 else if n then -1 else 1:=by
 unfold zAN;by_cases h:v=0
 ·rw [if_pos h,if_pos h];rfl
 ·rw [if_neg h,if_neg h]
  unfold zRi;have:zAa (zL5 v)≠[]:=by rw [zBK _ (by have:=(zCj v (by omega)).2;omega)];simp
  rw [if_neg this]
theorem zQp {a b:Dy}(hl:a.l≠[]) (hl':b.l≠[]) (hs:a.neg=b.neg) (hv:vld a=true):zRi (zDr a (zFi b))=zBP a*zCT (val a.l*2^(a.e - min a.e b.e).toNat) (val b.l*2^(b.e - min a.e b.e).toNat):=by
 have e1:(zFi b).l=b.l:=rfl;have e2:(zFi b).e=b.e:=rfl;have e3:(zFi b).neg = !b.neg:=by unfold zFi;simp [hl']
 unfold zDr;rw [if_neg hl,if_neg (by rw [e1];exact hl'),e1,e2,e3,if_neg (by rw [hs];cases b.neg <;> simp)];have es:zBP a=if a.neg then -1 else 1:=by unfold zBP;rw [if_pos ⟨hv,hl⟩]
 rw [es,<- hs];generalize val a.l*2^(a.e - min a.e b.e).toNat=P;generalize val b.l*2^(b.e - min a.e b.e).toNat=Q;rcases zHq P Q with ⟨h,e⟩ | ⟨h,e⟩ | ⟨h,e⟩
 ·have hq:¬ Q<=P:=by omega
  have h0:¬ Q - P=0:=by omega
  rw [if_neg hq,zFj,if_neg h0,e];cases a.neg <;> simp
 ·have hq:Q<=P:=by omega
  have h0:¬ P - Q=0:=by omega
  rw [if_pos hq,zFj,if_neg h0,e];cases a.neg <;> simp
 ·have hq:Q<=P:=by omega
  have h0:P - Q=0:=by omega
  rw [if_pos hq,zFj,if_pos h0,e];simp
theorem zRl {d:Dy}(hv:vld d=true) (hl:d.l≠[]):zBP d=if d.neg then -1 else 1:=by unfold zBP;rw [if_pos ⟨hv,hl⟩]
theorem zQk (an:Bool) (aA:Option Addr) (aS ac:Nat) (al:List Nat) (ae:Int) (bn:Bool) (bA:Option Addr) (bs bc:Nat) (bl:List Nat) (be:Int) (w:World) (ha:SL w aA aS ac al) (hb:SL w bA bs bc bl) (hv:vld ⟨an,al,ae⟩=true) (hv':vld ⟨bn,bl,be⟩=true) :
  Calls Tryz.prog 251 #[.agg #[.bool an,.slice aA aS ac,.int .i64 ae],.agg #[.bool bn,.slice bA bs bc,.int .i64 be]] w fun e w'=>e=.returned (.int .i64 (zCH ⟨an,al,ae⟩ ⟨bn,bl,be⟩))/\Below w.heap.size w w':=by
 have hsa:aS<=256:=by rw [<- ha.len];exact zDE hv
 have hsb:bs<=256:=by rw [<- hb.len];exact zDE hv'
 have HR:Hid (zCH ⟨an,al,ae⟩ ⟨bn,bl,be⟩=if zBP ⟨an,al,ae⟩<zBP ⟨bn,bl,be⟩ then -1 else if zBP ⟨bn,bl,be⟩<zBP ⟨an,al,ae⟩ then 1 else if zBP ⟨an,al,ae⟩=0 then 0 else zBP ⟨an,al,ae⟩ * zHh ⟨an,al,ae⟩ ⟨bn,bl,be⟩):=by unfold Hid zCH;rw [if_pos ⟨hv,hv'⟩]
 have HNE:Hid (zBP ⟨an,al,ae⟩≠0->al≠[]):=fun hs e=>hs (by unfold zBP;rw [if_neg (by simp [e])])
 have HNE':Hid (zBP ⟨bn,bl,be⟩≠0->bl≠[]):=fun hs e=>hs (by unfold zBP;rw [if_neg (by simp [e])])
 have HSG:Hid (al≠[]->bl≠[]->zBP ⟨an,al,ae⟩=zBP ⟨bn,bl,be⟩->an=bn):=fun h1 h2 h3=>by rw [zRl hv h1,zRl hv' h2] at h3;revert h3;cases an <;> cases bn <;> simp
 have HTA:Hid (al≠[]->zCU ⟨an,al,ae⟩=(zAT (val al):Int)+ae):=fun h1=>by unfold zCU;rw [if_pos ⟨hv,h1⟩]
 have HTB:Hid (bl≠[]->zCU ⟨bn,bl,be⟩=(zAT (val bl):Int)+be):=fun h1=>by unfold zCU;rw [if_pos ⟨hv',h1⟩]
 have HAC:Hid (zHh ⟨an,al,ae⟩ ⟨bn,bl,be⟩=if (zAT (val al):Int)+ae<(zAT (val bl):Int)+be then -1 else if (zAT (val bl):Int)+be<(zAT (val al):Int)+ae then 1 else zCT (val al*2^(ae - min ae be).toNat) (val bl*2^(be - min ae be).toNat)):=rfl;have HSU:Hid (al≠[]->bl≠[]->an=bn->zRi (zDr ⟨an,al,ae⟩ (zFi ⟨bn,bl,be⟩))=zBP ⟨an,al,ae⟩ * zCT (val al*2^(ae - min ae be).toNat) (val bl*2^(be - min ae be).toNat)):=fun h1 h2 h3=>zQp h1 h2 h3 hv
 have sc:=zFG ⟨an,al,ae⟩;have sc':=zFG ⟨bn,bl,be⟩;have HVA:=Zh hv;have HVB:=Zh hv';have HVN:Hid (vld (zFi ⟨bn,bl,be⟩)=true):=by unfold Hid;rw [zLJ _ hv'];exact zJE hv'
 obtain ⟨S,hS⟩:∃S,zBP ⟨an,al,ae⟩=S:=⟨_,rfl⟩;obtain ⟨S',hS'⟩:∃S',zBP ⟨bn,bl,be⟩=S':=⟨_,rfl⟩;obtain ⟨t1,ht1⟩:∃t1,zCU ⟨an,al,ae⟩=t1:=⟨_,rfl⟩;obtain ⟨t2,ht2⟩:∃t2,zCU ⟨bn,bl,be⟩=t2:=⟨_,rfl⟩;rw [hS] at sc;rw [hS'] at sc';rw [hS,hS'] at HR;rw [hS] at HNE HSU;rw [hS'] at HNE';rw [hS,hS'] at HSG;rw [ht1] at HTA;rw [ht2] at HTB;have HS:=Zh hS;have HS':=Zh hS';have H1:=Zh ht1;have H2:=Zh ht2;clear hS hS' ht1 ht2 hv hv';generalize zCH ⟨an,al,ae⟩ ⟨bn,bl,be⟩=r at *;generalize zHh ⟨an,al,ae⟩ ⟨bn,bl,be⟩=acp at *;go_enter Tryz.func251,Tryz.ntmps251
 go_wp2_with fail
 have hbw:=zAA (zAE w (.cells #[.bool an,.slice aA aS ac,.int .i64 ae] 41)) (zAE (w.alloc (.cells #[.bool an,.slice aA aS ac,.int .i64 ae] 41)) (.cells #[.bool bn,.slice bA bs bc,.int .i64 be] 41));have va:=(Var.new w an ae ha).next (zAE (w.alloc (.cells #[.bool an,.slice aA aS ac,.int .i64 ae] 41)) (.cells #[.bool bn,.slice bA bs bc,.int .i64 be] 41));have vb:=Var.newAt (w.alloc (.cells #[.bool an,.slice aA aS ac,.int .i64 ae] 41)) bn be (g:=w.heap.size+1) (by simp) (hb.below (zAE w (.cells #[.bool an,.slice aA aS ac,.int .i64 ae] 41)));clear ha hb;generalize ((w.alloc (.cells #[.bool an,.slice aA aS ac,.int .i64 ae] 41)).alloc (.cells #[.bool bn,.slice bA bs bc,.int .i64 be] 41))=W0 at *;have HK:Hid (∀V,Below W0.heap.size W0 V->(fun V=>(V.cell? ⟨w.heap.size,0,none⟩=some (.bool an)/\V.cell? ⟨w.heap.size,1,none⟩=some (.slice aA aS ac)/\V.cell? ⟨w.heap.size,2,none⟩=some (.int .i64 ae))/\(V.cell? ⟨w.heap.size+1,0,none⟩=some (.bool bn)/\V.cell? ⟨w.heap.size+1,1,none⟩=some (.slice bA bs bc)/\V.cell? ⟨w.heap.size+1,2,none⟩=some (.int .i64 be))/\Below W0.heap.size W0 V) V):=fun V hV=>⟨va.keep V hV,vb.keep V hV,hV⟩
 have hB:=zBw W0;refine wp_region_held_drew (S:=(fun V=>(V.cell? ⟨w.heap.size,0,none⟩=some (.bool an)/\V.cell? ⟨w.heap.size,1,none⟩=some (.slice aA aS ac)/\V.cell? ⟨w.heap.size,2,none⟩=some (.int .i64 ae))/\(V.cell? ⟨w.heap.size+1,0,none⟩=some (.bool bn)/\V.cell? ⟨w.heap.size+1,1,none⟩=some (.slice bA bs bc)/\V.cell? ⟨w.heap.size+1,2,none⟩=some (.int .i64 be))/\Below W0.heap.size W0 V)) (by kernel_rfl) (HK.out _ hB) (fun hH=>?_);refine tk (i:=0) (oi:=⟨_,_,_,_,_,_⟩) (v:=?_) rfl (by rfl) ?_ hH ?_;rotate_left
 ·(intro w hSw; (try dsimp only at hSw);go_simp;try (with_reducible rfl))
 simp only [Act.put,sT,sZ,sS];refine tk (i:=2) (oi:=⟨_,_,_,_,_,_⟩) (v:=?_) rfl (by rfl) ?_ hH ?_;rotate_left
 ·(intro w hSw; (try dsimp only at hSw);go_simp;try (with_reducible rfl))
 simp only [Act.put,sT,sZ,sS];refine Yj (rs:=[1]) (by kernel_rfl) (by simp) ?_;refine Yc (o:=⟨_,_,_,_,_,_⟩) rfl (fun K hK=>?_) Yd
 go_simp
 refine (zHC an aA aS ac al ae _ (va.sl.below hB) HVA.out).mono ?_;rw [HS.out];rintro e w1 ⟨rfl,hc⟩
 replace hB:=zAA hB hc;clear hc;go_wp2_with fail
 refine hK.out _ _ (HK.out _ hB) (fun hH=>?_);clear hK K;refine Yj (rs:=[3]) (by kernel_rfl) (by simp) ?_;refine Yc (o:=⟨_,_,_,_,_,_⟩) rfl (fun K hK=>?_) Yd
 go_simp
 refine (zHC bn bA bs bc bl be _ (vb.sl.below hB) HVB.out).mono ?_;rw [HS'.out];rintro e w2 ⟨rfl,hc⟩
 replace hB:=zAA hB hc;clear hc;go_wp2_with fail
 refine hK.out _ _ (HK.out _ hB) (fun hH=>?_);clear hK K;refine tk (i:=4) (oi:=⟨_,_,_,_,_,_⟩) (v:=?_) rfl (by rfl) ?_ hH ?_;rotate_left
 ·(intro w hSw; (try dsimp only at hSw);go_simp;try (with_reducible rfl))
 simp only [Act.put,sT,sZ,sS];refine tk (i:=5) (oi:=⟨_,_,_,_,_,_⟩) (v:=?_) rfl (by rfl) ?_ hH ?_;rotate_left
 ·(intro w hSw; (try dsimp only at hSw);go_simp;try (with_reducible rfl))
 simp only [Act.put,sT,sZ,sS];refine wpAnyH_done (by kernel_rfl) ?_ _;clear hH HK;replace va:=va.next hB;replace vb:=vb.next hB;replace hbw:=zAA hbw hB;clear hB;by_cases c1:S<S'
 ·have hne:(S != S')=true:=by rw [bne_iff_ne];omega
  have R1:Hid (r = -1):=by unfold Hid;rw [HR.out,if_pos c1]
  clear HR;go_wp2_with fail
  go_ret;exact ⟨by rw [R1.out];rfl,hbw⟩
 by_cases c2:S' < S
 ·have hne:(S != S')=true:=by rw [bne_iff_ne];omega
  have R1:Hid (r=1):=by unfold Hid;rw [HR.out,if_neg c1,if_pos c2]
  clear HR;go_wp2_with fail
  go_ret;exact ⟨by rw [R1.out];rfl,hbw⟩
 obtain rfl:S' = S:=by omega
 by_cases c3:S' = 0
 ·have R1:Hid (r=0):=by unfold Hid;rw [HR.out,if_neg c1,if_neg c2,if_pos c3]
  clear HR;subst c3;go_wp2_with fail
  go_ret;exact ⟨by rw [R1.out];rfl,hbw⟩
 have c4:(S' == 0)=false:=by rw [Xh];exact c3
 have HRR:Hid (r=S' * acp):=by unfold Hid;rw [HR.out,if_neg c1,if_neg c2,if_neg c3]
 clear HR c1 c2;have HAN:=Zh (HNE.out c3);have HBN:=Zh (HNE'.out c3);have HTA2:=Zh (HTA.out HAN.out);have HTB2:=Zh (HTB.out HBN.out);clear HNE HNE' HTA HTB;rw [<- HTA2.out,<- HTB2.out] at HAC;go_wp2_with fail
 have HK:Hid (∀V,Below w2.heap.size w2 V->(fun V=>(V.cell? ⟨w.heap.size,0,none⟩=some (.bool an)/\V.cell? ⟨w.heap.size,1,none⟩=some (.slice aA aS ac)/\V.cell? ⟨w.heap.size,2,none⟩=some (.int .i64 ae))/\(V.cell? ⟨w.heap.size+1,0,none⟩=some (.bool bn)/\V.cell? ⟨w.heap.size+1,1,none⟩=some (.slice bA bs bc)/\V.cell? ⟨w.heap.size+1,2,none⟩=some (.int .i64 be))/\Below w2.heap.size w2 V) V):=fun V hV=>⟨va.keep V hV,vb.keep V hV,hV⟩
 have hB:=zBw w2;refine wp_region_held_drew (S:=(fun V=>(V.cell? ⟨w.heap.size,0,none⟩=some (.bool an)/\V.cell? ⟨w.heap.size,1,none⟩=some (.slice aA aS ac)/\V.cell? ⟨w.heap.size,2,none⟩=some (.int .i64 ae))/\(V.cell? ⟨w.heap.size+1,0,none⟩=some (.bool bn)/\V.cell? ⟨w.heap.size+1,1,none⟩=some (.slice bA bs bc)/\V.cell? ⟨w.heap.size+1,2,none⟩=some (.int .i64 be))/\Below w2.heap.size w2 V)) (by kernel_rfl) (HK.out _ hB) (fun hH=>?_);refine tk (i:=0) (oi:=⟨_,_,_,_,_,_⟩) (v:=?_) rfl (by rfl) ?_ hH ?_;rotate_left
 ·(intro w hSw; (try dsimp only at hSw);go_simp;try (with_reducible rfl))
 simp only [Act.put,sT,sZ,sS];refine tk (i:=2) (oi:=⟨_,_,_,_,_,_⟩) (v:=?_) rfl (by rfl) ?_ hH ?_;rotate_left
 ·(intro w hSw; (try dsimp only at hSw);go_simp;try (with_reducible rfl))
 simp only [Act.put,sT,sZ,sS];refine Yj (rs:=[1]) (by kernel_rfl) (by simp) ?_;refine Yc (o:=⟨_,_,_,_,_,_⟩) rfl (fun K hK=>?_) Yd
 go_simp
 refine (zCE an aA aS ac al ae _ (va.sl.below hB) (by omega) HVA.out).mono ?_;rw [H1.out];rintro e w3 ⟨rfl,hc⟩
 replace hB:=zAA hB hc;clear hc;go_wp2_with fail
 refine hK.out _ _ (HK.out _ hB) (fun hH=>?_);clear hK K;refine Yj (rs:=[3]) (by kernel_rfl) (by simp) ?_;refine Yc (o:=⟨_,_,_,_,_,_⟩) rfl (fun K hK=>?_) Yd
 go_simp
 refine (zCE bn bA bs bc bl be _ (vb.sl.below hB) (by omega) HVB.out).mono ?_;rw [H2.out];rintro e w4 ⟨rfl,hc⟩
 replace hB:=zAA hB hc;clear hc;go_wp2_with fail
 refine hK.out _ _ (HK.out _ hB) (fun hH=>?_);clear hK K;refine tk (i:=4) (oi:=⟨_,_,_,_,_,_⟩) (v:=?_) rfl (by rfl) ?_ hH ?_;rotate_left
 ·(intro w hSw; (try dsimp only at hSw);go_simp;try (with_reducible rfl))
 simp only [Act.put,sT,sZ,sS];refine wpAnyH_done (by kernel_rfl) ?_ _;clear hH HK;replace va:=va.next hB;replace vb:=vb.next hB;replace hbw:=zAA hbw hB;clear hB;by_cases c5:t1=t2
 rotate_left
 ·have c6:(t1 != t2)=true:=by rw [bne_iff_ne];exact c5
  go_wp2_with fail
  rcases sc with rfl | rfl | rfl
  ·by_cases c7:t1<t2
   ·have c8:decide (t1<t2)=true:=Yf c7
    have R1:Hid (r=1):=by unfold Hid;rw [HRR.out,HAC.out,if_pos c7];rfl
    clear HRR HAC;have HK:Hid (∀V,Below w4.heap.size w4 V->(fun V=>(V.cell? ⟨w.heap.size,0,none⟩=some (.bool an)/\V.cell? ⟨w.heap.size,1,none⟩=some (.slice aA aS ac)/\V.cell? ⟨w.heap.size,2,none⟩=some (.int .i64 ae))/\(V.cell? ⟨w.heap.size+1,0,none⟩=some (.bool bn)/\V.cell? ⟨w.heap.size+1,1,none⟩=some (.slice bA bs bc)/\V.cell? ⟨w.heap.size+1,2,none⟩=some (.int .i64 be))/\Below w4.heap.size w4 V) V):=fun V hV=>⟨va.keep V hV,vb.keep V hV,hV⟩
    have hB:=zBw w4;refine wp_region_held_drew (S:=(fun V=>(V.cell? ⟨w.heap.size,0,none⟩=some (.bool an)/\V.cell? ⟨w.heap.size,1,none⟩=some (.slice aA aS ac)/\V.cell? ⟨w.heap.size,2,none⟩=some (.int .i64 ae))/\(V.cell? ⟨w.heap.size+1,0,none⟩=some (.bool bn)/\V.cell? ⟨w.heap.size+1,1,none⟩=some (.slice bA bs bc)/\V.cell? ⟨w.heap.size+1,2,none⟩=some (.int .i64 be))/\Below w4.heap.size w4 V)) (by kernel_rfl) (HK.out _ hB) (fun hH=>?_);refine tk (i:=0) (oi:=⟨_,_,_,_,_,_⟩) (v:=?_) rfl (by rfl) ?_ hH ?_;rotate_left
    ·(intro w hSw; (try dsimp only at hSw);go_simp;try (with_reducible rfl))
    simp only [Act.put,sT,sZ,sS];refine tk (i:=2) (oi:=⟨_,_,_,_,_,_⟩) (v:=?_) rfl (by rfl) ?_ hH ?_;rotate_left
    ·(intro w hSw; (try dsimp only at hSw);go_simp;try (with_reducible rfl))
    simp only [Act.put,sT,sZ,sS];refine tk (i:=5) (oi:=⟨_,_,_,_,_,_⟩) (v:=?_) rfl (by rfl) ?_ hH ?_;rotate_left
    ·(intro w hSw; (try dsimp only at hSw);go_simp;try (with_reducible rfl))
    simp only [Act.put,sT,sZ,sS];refine tk (i:=6) (oi:=⟨_,_,_,_,_,_⟩) (v:=?_) rfl (by rfl) ?_ hH ?_;rotate_left
    ·(intro w hSw; (try dsimp only at hSw);go_simp;try (with_reducible rfl))
    simp only [Act.put,sT,sZ,sS];refine Yj (rs:=[1]) (by kernel_rfl) (by simp) ?_;refine Yc (o:=⟨_,_,_,_,_,_⟩) rfl (fun K hK=>?_) Yd
    go_simp
    refine (zCE an aA aS ac al ae _ (va.sl.below hB) (by omega) HVA.out).mono ?_;rw [H1.out];rintro e w51 ⟨rfl,hc⟩
    replace hB:=zAA hB hc;clear hc;go_wp2_with fail
    refine hK.out _ _ (HK.out _ hB) (fun hH=>?_);clear hK K;refine Yj (rs:=[3]) (by kernel_rfl) (by simp) ?_;refine Yc (o:=⟨_,_,_,_,_,_⟩) rfl (fun K hK=>?_) Yd
    go_simp
    refine (zCE bn bA bs bc bl be _ (vb.sl.below hB) (by omega) HVB.out).mono ?_;rw [H2.out];rintro e w52 ⟨rfl,hc⟩
    replace hB:=zAA hB hc;clear hc;go_wp2_with fail
    refine hK.out _ _ (HK.out _ hB) (fun hH=>?_);clear hK K;refine tk (i:=4) (oi:=⟨_,_,_,_,_,_⟩) (v:=?_) rfl (by rfl) ?_ hH ?_;rotate_left
    ·(intro w hSw; (try dsimp only at hSw);go_simp;try (with_reducible rfl))
    simp only [Act.put,sT,sZ,sS];refine tk (i:=7) (oi:=⟨_,_,_,_,_,_⟩) (v:=?_) rfl (by rfl) ?_ hH ?_;rotate_left
    ·(intro w hSw; (try dsimp only at hSw);go_simp;try (with_reducible rfl))
    simp only [Act.put,sT,sZ,sS];refine wpAnyH_done (by kernel_rfl) ?_ _;clear hH HK;replace va:=va.next hB;replace vb:=vb.next hB;replace hbw:=zAA hbw hB;clear hB;go_wp2_with fail
    go_ret;exact ⟨by rw [R1.out];rfl,hbw⟩
   ·have c8:decide (t1<t2)=false:=Ye c7
    have R1:Hid (r = -1):=by unfold Hid;rw [HRR.out,HAC.out,if_neg c7,if_pos (by omega)];rfl
    clear HRR HAC;have HK:Hid (∀V,Below w4.heap.size w4 V->(fun V=>(V.cell? ⟨w.heap.size,0,none⟩=some (.bool an)/\V.cell? ⟨w.heap.size,1,none⟩=some (.slice aA aS ac)/\V.cell? ⟨w.heap.size,2,none⟩=some (.int .i64 ae))/\(V.cell? ⟨w.heap.size+1,0,none⟩=some (.bool bn)/\V.cell? ⟨w.heap.size+1,1,none⟩=some (.slice bA bs bc)/\V.cell? ⟨w.heap.size+1,2,none⟩=some (.int .i64 be))/\Below w4.heap.size w4 V) V):=fun V hV=>⟨va.keep V hV,vb.keep V hV,hV⟩
    have hB:=zBw w4;refine wp_region_held_drew (S:=(fun V=>(V.cell? ⟨w.heap.size,0,none⟩=some (.bool an)/\V.cell? ⟨w.heap.size,1,none⟩=some (.slice aA aS ac)/\V.cell? ⟨w.heap.size,2,none⟩=some (.int .i64 ae))/\(V.cell? ⟨w.heap.size+1,0,none⟩=some (.bool bn)/\V.cell? ⟨w.heap.size+1,1,none⟩=some (.slice bA bs bc)/\V.cell? ⟨w.heap.size+1,2,none⟩=some (.int .i64 be))/\Below w4.heap.size w4 V)) (by kernel_rfl) (HK.out _ hB) (fun hH=>?_);refine tk (i:=0) (oi:=⟨_,_,_,_,_,_⟩) (v:=?_) rfl (by rfl) ?_ hH ?_;rotate_left
    ·(intro w hSw; (try dsimp only at hSw);go_simp;try (with_reducible rfl))
    simp only [Act.put,sT,sZ,sS];refine tk (i:=2) (oi:=⟨_,_,_,_,_,_⟩) (v:=?_) rfl (by rfl) ?_ hH ?_;rotate_left
    ·(intro w hSw; (try dsimp only at hSw);go_simp;try (with_reducible rfl))
    simp only [Act.put,sT,sZ,sS];refine tk (i:=5) (oi:=⟨_,_,_,_,_,_⟩) (v:=?_) rfl (by rfl) ?_ hH ?_;rotate_left
    ·(intro w hSw; (try dsimp only at hSw);go_simp;try (with_reducible rfl))
    simp only [Act.put,sT,sZ,sS];refine tk (i:=6) (oi:=⟨_,_,_,_,_,_⟩) (v:=?_) rfl (by rfl) ?_ hH ?_;rotate_left
    ·(intro w hSw; (try dsimp only at hSw);go_simp;try (with_reducible rfl))
    simp only [Act.put,sT,sZ,sS];refine Yj (rs:=[1]) (by kernel_rfl) (by simp) ?_;refine Yc (o:=⟨_,_,_,_,_,_⟩) rfl (fun K hK=>?_) Yd
    go_simp
    refine (zCE an aA aS ac al ae _ (va.sl.below hB) (by omega) HVA.out).mono ?_;rw [H1.out];rintro e w51 ⟨rfl,hc⟩
    replace hB:=zAA hB hc;clear hc;go_wp2_with fail
    refine hK.out _ _ (HK.out _ hB) (fun hH=>?_);clear hK K;refine Yj (rs:=[3]) (by kernel_rfl) (by simp) ?_;refine Yc (o:=⟨_,_,_,_,_,_⟩) rfl (fun K hK=>?_) Yd
    go_simp
    refine (zCE bn bA bs bc bl be _ (vb.sl.below hB) (by omega) HVB.out).mono ?_;rw [H2.out];rintro e w52 ⟨rfl,hc⟩
    replace hB:=zAA hB hc;clear hc;go_wp2_with fail
    refine hK.out _ _ (HK.out _ hB) (fun hH=>?_);clear hK K;refine tk (i:=4) (oi:=⟨_,_,_,_,_,_⟩) (v:=?_) rfl (by rfl) ?_ hH ?_;rotate_left
    ·(intro w hSw; (try dsimp only at hSw);go_simp;try (with_reducible rfl))
    simp only [Act.put,sT,sZ,sS];refine tk (i:=7) (oi:=⟨_,_,_,_,_,_⟩) (v:=?_) rfl (by rfl) ?_ hH ?_;rotate_left
    ·(intro w hSw; (try dsimp only at hSw);go_simp;try (with_reducible rfl))
    simp only [Act.put,sT,sZ,sS];refine wpAnyH_done (by kernel_rfl) ?_ _;clear hH HK;replace va:=va.next hB;replace vb:=vb.next hB;replace hbw:=zAA hbw hB;clear hB;go_wp2_with fail
    go_ret;exact ⟨by rw [R1.out];rfl,hbw⟩
  ·exact absurd rfl c3
  ·by_cases c7:t1<t2
   ·have c8:decide (t1<t2)=true:=Yf c7
    have R1:Hid (r = -1):=by unfold Hid;rw [HRR.out,HAC.out,if_pos c7];rfl
    clear HRR HAC;have HK:Hid (∀V,Below w4.heap.size w4 V->(fun V=>(V.cell? ⟨w.heap.size,0,none⟩=some (.bool an)/\V.cell? ⟨w.heap.size,1,none⟩=some (.slice aA aS ac)/\V.cell? ⟨w.heap.size,2,none⟩=some (.int .i64 ae))/\(V.cell? ⟨w.heap.size+1,0,none⟩=some (.bool bn)/\V.cell? ⟨w.heap.size+1,1,none⟩=some (.slice bA bs bc)/\V.cell? ⟨w.heap.size+1,2,none⟩=some (.int .i64 be))/\Below w4.heap.size w4 V) V):=fun V hV=>⟨va.keep V hV,vb.keep V hV,hV⟩
    have hB:=zBw w4;refine wp_region_held_drew (S:=(fun V=>(V.cell? ⟨w.heap.size,0,none⟩=some (.bool an)/\V.cell? ⟨w.heap.size,1,none⟩=some (.slice aA aS ac)/\V.cell? ⟨w.heap.size,2,none⟩=some (.int .i64 ae))/\(V.cell? ⟨w.heap.size+1,0,none⟩=some (.bool bn)/\V.cell? ⟨w.heap.size+1,1,none⟩=some (.slice bA bs bc)/\V.cell? ⟨w.heap.size+1,2,none⟩=some (.int .i64 be))/\Below w4.heap.size w4 V)) (by kernel_rfl) (HK.out _ hB) (fun hH=>?_);refine tk (i:=0) (oi:=⟨_,_,_,_,_,_⟩) (v:=?_) rfl (by rfl) ?_ hH ?_;rotate_left
    ·(intro w hSw; (try dsimp only at hSw);go_simp;try (with_reducible rfl))
    simp only [Act.put,sT,sZ,sS];refine tk (i:=2) (oi:=⟨_,_,_,_,_,_⟩) (v:=?_) rfl (by rfl) ?_ hH ?_;rotate_left
    ·(intro w hSw; (try dsimp only at hSw);go_simp;try (with_reducible rfl))
    simp only [Act.put,sT,sZ,sS];refine tk (i:=5) (oi:=⟨_,_,_,_,_,_⟩) (v:=?_) rfl (by rfl) ?_ hH ?_;rotate_left
    ·(intro w hSw; (try dsimp only at hSw);go_simp;try (with_reducible rfl))
    simp only [Act.put,sT,sZ,sS];refine tk (i:=6) (oi:=⟨_,_,_,_,_,_⟩) (v:=?_) rfl (by rfl) ?_ hH ?_;rotate_left
    ·(intro w hSw; (try dsimp only at hSw);go_simp;try (with_reducible rfl))
    simp only [Act.put,sT,sZ,sS];refine Yj (rs:=[1]) (by kernel_rfl) (by simp) ?_;refine Yc (o:=⟨_,_,_,_,_,_⟩) rfl (fun K hK=>?_) Yd
    go_simp
    refine (zCE an aA aS ac al ae _ (va.sl.below hB) (by omega) HVA.out).mono ?_;rw [H1.out];rintro e w51 ⟨rfl,hc⟩
    replace hB:=zAA hB hc;clear hc;go_wp2_with fail
    refine hK.out _ _ (HK.out _ hB) (fun hH=>?_);clear hK K;refine Yj (rs:=[3]) (by kernel_rfl) (by simp) ?_;refine Yc (o:=⟨_,_,_,_,_,_⟩) rfl (fun K hK=>?_) Yd
    go_simp
    refine (zCE bn bA bs bc bl be _ (vb.sl.below hB) (by omega) HVB.out).mono ?_;rw [H2.out];rintro e w52 ⟨rfl,hc⟩
    replace hB:=zAA hB hc;clear hc;go_wp2_with fail
    refine hK.out _ _ (HK.out _ hB) (fun hH=>?_);clear hK K;refine tk (i:=4) (oi:=⟨_,_,_,_,_,_⟩) (v:=?_) rfl (by rfl) ?_ hH ?_;rotate_left
    ·(intro w hSw; (try dsimp only at hSw);go_simp;try (with_reducible rfl))
    simp only [Act.put,sT,sZ,sS];refine tk (i:=7) (oi:=⟨_,_,_,_,_,_⟩) (v:=?_) rfl (by rfl) ?_ hH ?_;rotate_left
    ·(intro w hSw; (try dsimp only at hSw);go_simp;try (with_reducible rfl))
    simp only [Act.put,sT,sZ,sS];refine wpAnyH_done (by kernel_rfl) ?_ _;clear hH HK;replace va:=va.next hB;replace vb:=vb.next hB;replace hbw:=zAA hbw hB;clear hB;go_wp2_with fail
    go_ret;exact ⟨by rw [R1.out];rfl,hbw⟩
   ·have c8:decide (t1<t2)=false:=Ye c7
    have R1:Hid (r=1):=by unfold Hid;rw [HRR.out,HAC.out,if_neg c7,if_pos (by omega)];rfl
    clear HRR HAC;have HK:Hid (∀V,Below w4.heap.size w4 V->(fun V=>(V.cell? ⟨w.heap.size,0,none⟩=some (.bool an)/\V.cell? ⟨w.heap.size,1,none⟩=some (.slice aA aS ac)/\V.cell? ⟨w.heap.size,2,none⟩=some (.int .i64 ae))/\(V.cell? ⟨w.heap.size+1,0,none⟩=some (.bool bn)/\V.cell? ⟨w.heap.size+1,1,none⟩=some (.slice bA bs bc)/\V.cell? ⟨w.heap.size+1,2,none⟩=some (.int .i64 be))/\Below w4.heap.size w4 V) V):=fun V hV=>⟨va.keep V hV,vb.keep V hV,hV⟩
    have hB:=zBw w4;refine wp_region_held_drew (S:=(fun V=>(V.cell? ⟨w.heap.size,0,none⟩=some (.bool an)/\V.cell? ⟨w.heap.size,1,none⟩=some (.slice aA aS ac)/\V.cell? ⟨w.heap.size,2,none⟩=some (.int .i64 ae))/\(V.cell? ⟨w.heap.size+1,0,none⟩=some (.bool bn)/\V.cell? ⟨w.heap.size+1,1,none⟩=some (.slice bA bs bc)/\V.cell? ⟨w.heap.size+1,2,none⟩=some (.int .i64 be))/\Below w4.heap.size w4 V)) (by kernel_rfl) (HK.out _ hB) (fun hH=>?_);refine tk (i:=0) (oi:=⟨_,_,_,_,_,_⟩) (v:=?_) rfl (by rfl) ?_ hH ?_;rotate_left
    ·(intro w hSw; (try dsimp only at hSw);go_simp;try (with_reducible rfl))
    simp only [Act.put,sT,sZ,sS];refine tk (i:=2) (oi:=⟨_,_,_,_,_,_⟩) (v:=?_) rfl (by rfl) ?_ hH ?_;rotate_left
    ·(intro w hSw; (try dsimp only at hSw);go_simp;try (with_reducible rfl))
    simp only [Act.put,sT,sZ,sS];refine tk (i:=5) (oi:=⟨_,_,_,_,_,_⟩) (v:=?_) rfl (by rfl) ?_ hH ?_;rotate_left
    ·(intro w hSw; (try dsimp only at hSw);go_simp;try (with_reducible rfl))
    simp only [Act.put,sT,sZ,sS];refine tk (i:=6) (oi:=⟨_,_,_,_,_,_⟩) (v:=?_) rfl (by rfl) ?_ hH ?_;rotate_left
    ·(intro w hSw; (try dsimp only at hSw);go_simp;try (with_reducible rfl))
    simp only [Act.put,sT,sZ,sS];refine Yj (rs:=[1]) (by kernel_rfl) (by simp) ?_;refine Yc (o:=⟨_,_,_,_,_,_⟩) rfl (fun K hK=>?_) Yd
    go_simp
    refine (zCE an aA aS ac al ae _ (va.sl.below hB) (by omega) HVA.out).mono ?_;rw [H1.out];rintro e w51 ⟨rfl,hc⟩
    replace hB:=zAA hB hc;clear hc;go_wp2_with fail
    refine hK.out _ _ (HK.out _ hB) (fun hH=>?_);clear hK K;refine Yj (rs:=[3]) (by kernel_rfl) (by simp) ?_;refine Yc (o:=⟨_,_,_,_,_,_⟩) rfl (fun K hK=>?_) Yd
    go_simp
    refine (zCE bn bA bs bc bl be _ (vb.sl.below hB) (by omega) HVB.out).mono ?_;rw [H2.out];rintro e w52 ⟨rfl,hc⟩
    replace hB:=zAA hB hc;clear hc;go_wp2_with fail
    refine hK.out _ _ (HK.out _ hB) (fun hH=>?_);clear hK K;refine tk (i:=4) (oi:=⟨_,_,_,_,_,_⟩) (v:=?_) rfl (by rfl) ?_ hH ?_;rotate_left
    ·(intro w hSw; (try dsimp only at hSw);go_simp;try (with_reducible rfl))
    simp only [Act.put,sT,sZ,sS];refine tk (i:=7) (oi:=⟨_,_,_,_,_,_⟩) (v:=?_) rfl (by rfl) ?_ hH ?_;rotate_left
    ·(intro w hSw; (try dsimp only at hSw);go_simp;try (with_reducible rfl))
    simp only [Act.put,sT,sZ,sS];refine wpAnyH_done (by kernel_rfl) ?_ _;clear hH HK;replace va:=va.next hB;replace vb:=vb.next hB;replace hbw:=zAA hbw hB;clear hB;go_wp2_with fail
    go_ret;exact ⟨by rw [R1.out];rfl,hbw⟩
 have c6:(t1 != t2)=false:=by rw [c5];simp
 have hac:acp=zCT (val al*2^(ae - min ae be).toNat) (val bl*2^(be - min ae be).toNat):=by rw [HAC.out,if_neg (by omega),if_neg (by omega)]
 have HSU2:=Zh (HSU.out HAN.out HBN.out (HSG.out HAN.out HBN.out (by first | rfl | trivial)));rw [<- hac,<- HRR.out] at HSU2;clear HAC HRR HSU c5 hac;go_wp2_with fail
 have HK:Hid (∀V,Below w4.heap.size w4 V->(fun V=>(V.cell? ⟨w.heap.size,0,none⟩=some (.bool an)/\V.cell? ⟨w.heap.size,1,none⟩=some (.slice aA aS ac)/\V.cell? ⟨w.heap.size,2,none⟩=some (.int .i64 ae))/\(V.cell? ⟨w.heap.size+1,0,none⟩=some (.bool bn)/\V.cell? ⟨w.heap.size+1,1,none⟩=some (.slice bA bs bc)/\V.cell? ⟨w.heap.size+1,2,none⟩=some (.int .i64 be))/\Below w4.heap.size w4 V) V):=fun V hV=>⟨va.keep V hV,vb.keep V hV,hV⟩
 have hB:=zBw w4;refine wp_region_held_drew (S:=(fun V=>(V.cell? ⟨w.heap.size,0,none⟩=some (.bool an)/\V.cell? ⟨w.heap.size,1,none⟩=some (.slice aA aS ac)/\V.cell? ⟨w.heap.size,2,none⟩=some (.int .i64 ae))/\(V.cell? ⟨w.heap.size+1,0,none⟩=some (.bool bn)/\V.cell? ⟨w.heap.size+1,1,none⟩=some (.slice bA bs bc)/\V.cell? ⟨w.heap.size+1,2,none⟩=some (.int .i64 be))/\Below w4.heap.size w4 V)) (by kernel_rfl) (HK.out _ hB) (fun hH=>?_);refine tk (i:=0) (oi:=⟨_,_,_,_,_,_⟩) (v:=?_) rfl (by rfl) ?_ hH ?_;rotate_left
 ·(intro w hSw; (try dsimp only at hSw);go_simp;try (with_reducible rfl))
 simp only [Act.put,sT,sZ,sS];refine tk (i:=1) (oi:=⟨_,_,_,_,_,_⟩) (v:=?_) rfl (by rfl) ?_ hH ?_;rotate_left
 ·(intro w hSw; (try dsimp only at hSw);go_simp;try (with_reducible rfl))
 simp only [Act.put,sT,sZ,sS];refine Yj (rs:=[2]) (by kernel_rfl) (by simp) ?_;refine Yc (o:=⟨_,_,_,_,_,_⟩) rfl (fun K hK=>?_) Yd
 go_simp
 refine (zMB bn bA bs bc bl be _ (vb.sl.below hB)).mono ?_;rintro e w81 ⟨rfl,hc⟩
 replace hB:=zAA hB hc;clear hc;go_wp2_with fail
 refine hK.out _ _ (HK.out _ hB) (fun hH=>?_);clear hK K;refine Yj (rs:=[3]) (by kernel_rfl) (by simp) ?_;refine Yc (o:=⟨_,_,_,_,_,_⟩) rfl (fun K hK=>?_) Yd
 go_simp
 refine (zMC an aA aS ac al ae (zFi ⟨bn,bl,be⟩).neg bA bs bc bl be _ (va.sl.below hB) (vb.sl.below hB) HVA.out HVN.out).mono ?_;rintro e w82 ⟨sA,sn,sc2,rfl,hss,-,hc⟩
 replace hB:=zAA hB hc;clear hc;go_wp2_with fail
 refine hK.out _ _ (HK.out _ hB) (fun hH=>?_);clear hK K;refine Yj (rs:=[4]) (by kernel_rfl) (by simp) ?_;refine Yc (o:=⟨_,_,_,_,_,_⟩) rfl (fun K hK=>?_) Yd
 go_simp
 refine (zOw _ sA sn sc2 _ _ _ hss).mono ?_;rintro e w83 ⟨rfl,hc⟩
 replace hB:=zAA hB hc;clear hc;go_wp2_with fail
 refine hK.out _ _ (HK.out _ hB) (fun hH=>?_);clear hK K;refine tk (i:=5) (oi:=⟨_,_,_,_,_,_⟩) (v:=?_) rfl (by rfl) ?_ hH ?_;rotate_left
 ·(intro w hSw; (try dsimp only at hSw);go_simp;try (with_reducible rfl))
 simp only [Act.put,sT,sZ,sS];refine wpAnyH_done (by kernel_rfl) ?_ _;clear hH HK;replace va:=va.next hB;replace vb:=vb.next hB;replace hbw:=zAA hbw hB;clear hB;go_wp2_with fail
 go_ret;exact ⟨by rw [<- HSU2.out];rfl,hbw⟩
theorem zKG:zAN false (val [0,0]) 0=⟨false,[],0⟩:=by kernel_rfl
theorem zKF (w:World):Calls Tryz.prog 185 #[.int .i64 0] w (zNV ⟨false,[],0⟩ w):=by
 have hs0:=SL.two (w.alloc (.cells #[.bool false,.slice none 0 0,.int .i64 0] 41)) 109 0 0 (by omega) (by omega);rw [World.size_alloc] at hs0;simp only [Int.natCast_zero] at hs0;have hb0:=zAA (zAE w (.cells #[.bool false,.slice none 0 0,.int .i64 0] 41)) (zAE (w.alloc (.cells #[.bool false,.slice none 0 0,.int .i64 0] 41)) (.cells #[.int .u32 0,.int .u32 0] 109));have k1:=(Blk.new w 41 #[.bool false,.slice none 0 0,.int .i64 0]).next (zAE (w.alloc (.cells #[.bool false,.slice none 0 0,.int .i64 0] 41)) (.cells #[.int .u32 0,.int .u32 0] 109));have hz0:w.heap.size+2<=((w.alloc (.cells #[.bool false,.slice none 0 0,.int .i64 0] 41)).alloc (.cells #[.int .u32 0,.int .u32 0] 109)).heap.size:=by simp
 go_enter Tryz.func185,Tryz.ntmps185
 go_wp2_with fail
 rw [show bits BinOp.and IntKind.u64 0 4294967295%4294967296=0 from by kernel_rfl];generalize ((w.alloc (.cells #[.bool false,.slice none 0 0,.int .i64 0] 41)).alloc (.cells #[.int .u32 0,.int .u32 0] 109))=W0 at *;refine (zHB false _ 2 2 _ 0 _ hs0 (by omega) (by omega) (by omega)).mono ?_;rw [zKG];rintro e w1 ⟨A1,n1,c1,rfl,hs1,hf1,hb1⟩
 dsimp only at hs1;have j1:=k1.next hb1;obtain ⟨s0,s1,s2⟩:=j1.cells3;have f0:=j1.frozen 0;have f1:=j1.frozen 1;have f2:=j1.frozen 2;have hz1:w.heap.size+2<=w1.heap.size:=by have:=hb1.size;omega
 go_wp2_with fail
 refine Yn (zHV Tryz.results185 rfl (j1.set3 _ _ _)) rfl ?_;exact ⟨A1,n1,c1,rfl,(((hs1.far hf1 (by omega) 0 _).far hf1 (by omega) 1 _).far hf1 (by omega) 2 _),hf1.mono (by omega),zAG (zAA hb0 hb1) (by omega) _ _ _⟩
theorem zLI:zAN false (val [1,0]) 0=⟨false,[1],0⟩:=by kernel_rfl
theorem zQn (w:World):Calls Tryz.prog 185 #[.int .i64 1] w (zNV ⟨false,[1],0⟩ w):=by
 have hs0:=SL.two (w.alloc (.cells #[.bool false,.slice none 0 0,.int .i64 0] 41)) 109 1 0 (by omega) (by omega);rw [World.size_alloc] at hs0;simp only [Int.natCast_zero,show ((1:Nat):Int)=1 from rfl] at hs0;have hb0:=zAA (zAE w (.cells #[.bool false,.slice none 0 0,.int .i64 0] 41)) (zAE (w.alloc (.cells #[.bool false,.slice none 0 0,.int .i64 0] 41)) (.cells #[.int .u32 1,.int .u32 0] 109));have k1:=(Blk.new w 41 #[.bool false,.slice none 0 0,.int .i64 0]).next (zAE (w.alloc (.cells #[.bool false,.slice none 0 0,.int .i64 0] 41)) (.cells #[.int .u32 1,.int .u32 0] 109));have hz0:w.heap.size+2<=((w.alloc (.cells #[.bool false,.slice none 0 0,.int .i64 0] 41)).alloc (.cells #[.int .u32 1,.int .u32 0] 109)).heap.size:=by simp
 go_enter Tryz.func185,Tryz.ntmps185
 go_wp2_with fail
 rw [show bits BinOp.and IntKind.u64 1 4294967295%4294967296=1 from by kernel_rfl];generalize ((w.alloc (.cells #[.bool false,.slice none 0 0,.int .i64 0] 41)).alloc (.cells #[.int .u32 1,.int .u32 0] 109))=W0 at *;refine (zHB false _ 2 2 _ 0 _ hs0 (by omega) (by omega) (by omega)).mono ?_;rw [zLI];rintro e w1 ⟨A1,n1,c1,rfl,hs1,hf1,hb1⟩
 dsimp only at hs1;have j1:=k1.next hb1;obtain ⟨s0,s1,s2⟩:=j1.cells3;have f0:=j1.frozen 0;have f1:=j1.frozen 1;have f2:=j1.frozen 2;have hz1:w.heap.size+2<=w1.heap.size:=by have:=hb1.size;omega
 go_wp2_with fail
 refine Yn (zHV Tryz.results185 rfl (j1.set3 _ _ _)) rfl ?_;exact ⟨A1,n1,c1,rfl,(((hs1.far hf1 (by omega) 0 _).far hf1 (by omega) 1 _).far hf1 (by omega) 2 _),hf1.mono (by omega),zAG (zAA hb0 hb1) (by omega) _ _ _⟩
theorem zDO (vs:List Value) (d:Dy) (w:World) (h:RD w vs d) (hd:Bd d):Calls Tryz.prog 56 #[.agg vs.toArray] w (zBW (vld d) w):=by
 obtain ⟨A,n,c,rfl,hs⟩:=h;have:=hs.len;unfold Bd at hd;exact zDA d.neg A n c d.l d.e w hs (by omega)
theorem zOj (vs us:List Value) (d d':Dy) (w:World) (h:RD w vs d) (h':RD w us d') (hv:vld d=true) (hv':vld d' = true) :
  Calls Tryz.prog 251 #[.agg vs.toArray,.agg us.toArray] w fun e w'=>e=.returned (.int .i64 (zCH d d'))/\Below w.heap.size w w':=by
 obtain ⟨A,n,c,rfl,hs⟩:=h;obtain ⟨B,m,c',rfl,hs'⟩:=h';exact zQk d.neg A n c d.l d.e d'.neg B m c' d'.l d'.e w hs hs' hv hv'
theorem zS9 (vs:List Value) (d:Dy) (w:World) (h:RD w vs d) (hv:vld d=true):Calls Tryz.prog 55 #[.agg vs.toArray] w fun e w'=>e=.returned (.int .i64 (zBP d))/\Below w.heap.size w w':=by
 obtain ⟨A,n,c,rfl,hs⟩:=h;exact zHC d.neg A n c d.l d.e w hs hv
theorem zMA (vs us:List Value) (d d':Dy) (w:World) (h:RD w vs d) (h':RD w us d') :
  Calls Tryz.prog 186 #[.agg vs.toArray,.agg us.toArray] w (zBW (eqD d d') w):=by
 obtain ⟨A,n,c,rfl,hs⟩:=h;obtain ⟨B,m,c',rfl,hs'⟩:=h';exact zM5 d.neg d'.neg A B n c m c' d.l d'.l d.e d'.e w hs hs'
theorem zID (vs:List Value) (d:Dy) (w:World) (h:RD w vs d):Calls Tryz.prog 250 #[.agg vs.toArray] w (zBW (zro d) w):=by
 obtain ⟨A,n,c,rfl,hs⟩:=h;obtain ⟨neg,l,x⟩:=d;dsimp only at hs ⊢;have hl:decide (l=[])=decide (n=0):=Xk.2 ⟨fun e=>by rw [<- hs.len,e];rfl,fun e=>hs.empty e⟩;have HZ:Hid (zro ⟨neg,l,x⟩=(!neg && decide (n=0) && decide (x=0))):=by unfold Hid zro;rw [<- hl]
 have hm:=hs.cap;have hm2:=hs.max;clear hl hs;cases neg
 ·by_cases h0:n=0
  ·subst h0
   by_cases hx:x=0
   ·subst hx
    go_enter Tryz.func250,Tryz.ntmps250
    go_wp2_with fail
    go_ret;exact ⟨by rw [HZ.out];simp,zAE _ _⟩
   ·have hx2:(x == 0)=false:=by simpa using hx
    go_enter Tryz.func250,Tryz.ntmps250
    go_wp2_with fail
    go_ret;exact ⟨by rw [HZ.out];simp [hx],zAE _ _⟩
  ·have hn2:((n:Int) == 0)=false:=by simpa using h0
   go_enter Tryz.func250,Tryz.ntmps250
   go_wp2_with fail
   go_ret;exact ⟨by rw [HZ.out];simp [h0],zAE _ _⟩
 ·go_enter Tryz.func250,Tryz.ntmps250
  go_wp2_with fail
  go_ret;exact ⟨by rw [HZ.out];simp,zAE _ _⟩
theorem zEj (vs:List Value) (x:Iv) (w:World) (h:RI w vs x) (hx:BdI x):Calls Tryz.prog 187 #[.agg vs.toArray] w (zBW (ivV x) w):=by
 obtain ⟨A,n,c,B,m,d,rfl,h1,h2⟩:=h;obtain ⟨⟨ln,ll,le⟩,⟨un,ul,ue⟩,al⟩:=x;dsimp only at h1 h2 ⊢;have r1:RD w [.bool ln,.slice A n c,.int .i64 le] ⟨ln,ll,le⟩:=⟨A,n,c,rfl,h1⟩;have r2:RD w [.bool un,.slice B m d,.int .i64 ue] ⟨un,ul,ue⟩:=⟨B,m,d,rfl,h2⟩;have hb0:=zAE w (.cells #[.bool ln,.slice A n c,.int .i64 le,.bool un,.slice B m d,.int .i64 ue,.bool al] 43);have k0:=Blk.new w 43 #[.bool ln,.slice A n c,.int .i64 le,.bool un,.slice B m d,.int .i64 ue,.bool al];have H1:=Zh (fun W hb=>zAQ w W _ _ r1 hb);have H2:=Zh (fun W hb=>zAQ w W _ _ r2 hb);have HX:=Zh hx;clear h1 h2 hx r1 r2;cases al
 ·have HV:Hid (ivV ⟨⟨ln,ll,le⟩,⟨un,ul,ue⟩,false⟩=(vld ⟨ln,ll,le⟩ && vld ⟨un,ul,ue⟩ && decide (zCH ⟨ln,ll,le⟩ ⟨un,ul,ue⟩<=0))):=rfl
  go_enter Tryz.func187,Tryz.ntmps187
  go_wp2_with fail
  generalize w.alloc (.cells #[.bool ln,.slice A n c,.int .i64 le,.bool un,.slice B m d,.int .i64 ue,.bool false] 43)=W0 at *;refine (zDO _ _ _ (H1.out _ hb0) HX.out.1).mono ?_;rintro e w1 ⟨rfl,hb1⟩
  replace hb0:=zAA hb0 hb1;replace k0:=k0.next hb1;clear hb1;cases hv1:vld ⟨ln,ll,le⟩
  ·rw [hv1] at HV
   clear hv1;go_wp2_with fail
   go_ret;exact ⟨by rw [HV.out];rfl,hb0⟩
  have HL:=Zh hv1;rw [hv1] at HV;clear hv1;obtain ⟨q0,q1,q2,q3,q4,q5,q6⟩:=k0.cells7;go_wp2_with fail
  refine (zDO _ _ _ (H2.out _ hb0) HX.out.2).mono ?_;rintro e w2 ⟨rfl,hb2⟩
  clear q0 q1 q2 q3 q4 q5 q6;replace hb0:=zAA hb0 hb2;replace k0:=k0.next hb2;clear hb2;cases hv1:vld ⟨un,ul,ue⟩
  ·rw [hv1] at HV
   clear hv1;go_wp2_with fail
   go_ret;exact ⟨by rw [HV.out];rfl,hb0⟩
  have HU:=Zh hv1;rw [hv1] at HV;clear hv1;obtain ⟨q0,q1,q2,q3,q4,q5,q6⟩:=k0.cells7;go_wp2_with fail
  refine (zOj _ _ _ _ _ (H1.out _ hb0) (H2.out _ hb0) HL.out HU.out).mono ?_;rintro e w3 ⟨rfl,hb3⟩
  clear q0 q1 q2 q3 q4 q5 q6;replace hb0:=zAA hb0 hb3;clear hb3 k0;generalize zCH ⟨ln,ll,le⟩ ⟨un,ul,ue⟩=r at *;go_wp2_with fail
  go_ret;exact ⟨by rw [HV.out];rfl,hb0⟩
 ·have HV:Hid (ivV ⟨⟨ln,ll,le⟩,⟨un,ul,ue⟩,true⟩=(zro ⟨ln,ll,le⟩ && zro ⟨un,ul,ue⟩)):=rfl
  go_enter Tryz.func187,Tryz.ntmps187
  go_wp2_with fail
  generalize w.alloc (.cells #[.bool ln,.slice A n c,.int .i64 le,.bool un,.slice B m d,.int .i64 ue,.bool true] 43)=W0 at *;refine (zID _ _ _ (H1.out _ hb0)).mono ?_;rintro e w1 ⟨rfl,hb1⟩
  replace hb0:=zAA hb0 hb1;replace k0:=k0.next hb1;clear hb1;cases hv1:zro ⟨ln,ll,le⟩
  ·rw [hv1] at HV
   clear hv1;go_wp2_with fail
   go_ret;exact ⟨by rw [HV.out];rfl,hb0⟩
  rw [hv1] at HV;clear hv1;obtain ⟨q0,q1,q2,q3,q4,q5,q6⟩:=k0.cells7;go_wp2_with fail
  refine (zID _ _ _ (H2.out _ hb0)).mono ?_;rintro e w2 ⟨rfl,hb2⟩
  clear q0 q1 q2 q3 q4 q5 q6;replace hb0:=zAA hb0 hb2;clear hb2 k0;generalize zro ⟨un,ul,ue⟩=r at *;go_wp2_with fail
  go_ret;exact ⟨by rw [HV.out];rfl,hb0⟩
theorem zOF {x:Iv}(h:ivV x=true) (ha:x.all=false):vld x.lo=true/\vld x.hi=true:=by
 unfold ivV at h;rw [ha] at h;simp only [Bool.false_eq_true,if_false,Yi] at h;exact h.1
theorem zOr (vs us:List Value) (x:Iv) (d:Dy) (w:World) (h:RI w vs x) (h':RD w us d) (hx:BdI x) (hd:Bd d):Calls Tryz.prog 249 #[.agg vs.toArray,.agg us.toArray] w (zBW (zCM x d) w):=by
 obtain ⟨A,n,c,B,m,b,rfl,h1,h2⟩:=h;obtain ⟨⟨ln,ll,le⟩,⟨un,ul,ue⟩,al⟩:=x;dsimp only at h1 h2 ⊢;have rI:RI w [.bool ln,.slice A n c,.int .i64 le,.bool un,.slice B m b,.int .i64 ue,.bool al] ⟨⟨ln,ll,le⟩,⟨un,ul,ue⟩,al⟩:=⟨A,n,c,B,m,b,rfl,h1,h2⟩;have r1:RD w [.bool ln,.slice A n c,.int .i64 le] ⟨ln,ll,le⟩:=⟨A,n,c,rfl,h1⟩;have r2:RD w [.bool un,.slice B m b,.int .i64 ue] ⟨un,ul,ue⟩:=⟨B,m,b,rfl,h2⟩;have HI:=Zh (fun W hb=>zAX w W _ _ rI hb);have H1:=Zh (fun W hb=>zAQ w W _ _ r1 hb);have H2:=Zh (fun W hb=>zAQ w W _ _ r2 hb);have HX:=Zh hx;clear h1 h2 hx r1 r2 rI;obtain ⟨C,p,q,rfl,h3⟩:=h';obtain ⟨dn,dl,de⟩:=d;dsimp only at h3 ⊢;have r3:RD w [.bool dn,.slice C p q,.int .i64 de] ⟨dn,dl,de⟩:=⟨C,p,q,rfl,h3⟩;have H3:=Zh (fun W hb=>zAQ w W _ _ r3 hb);have HD:=Zh hd;clear h3 r3 hd;have HV:Hid (zCM ⟨⟨ln,ll,le⟩,⟨un,ul,ue⟩,al⟩ ⟨dn,dl,de⟩=(ivV ⟨⟨ln,ll,le⟩,⟨un,ul,ue⟩,al⟩ && vld ⟨dn,dl,de⟩ && (al || (decide (zCH ⟨ln,ll,le⟩ ⟨dn,dl,de⟩<=0) && decide (zCH ⟨dn,dl,de⟩ ⟨un,ul,ue⟩<=0))))):=rfl;have hb0:=zAA (zAE w (.cells #[.bool ln,.slice A n c,.int .i64 le,.bool un,.slice B m b,.int .i64 ue,.bool al] 43)) (zAE (w.alloc (.cells #[.bool ln,.slice A n c,.int .i64 le,.bool un,.slice B m b,.int .i64 ue,.bool al] 43)) (.cells #[.bool dn,.slice C p q,.int .i64 de] 41));have k0:=(Blk.new w 43 #[.bool ln,.slice A n c,.int .i64 le,.bool un,.slice B m b,.int .i64 ue,.bool al]).next (zAE (w.alloc (.cells #[.bool ln,.slice A n c,.int .i64 le,.bool un,.slice B m b,.int .i64 ue,.bool al] 43)) (.cells #[.bool dn,.slice C p q,.int .i64 de] 41));have k1:Blk ((w.alloc (.cells #[.bool ln,.slice A n c,.int .i64 le,.bool un,.slice B m b,.int .i64 ue,.bool al] 43)).alloc (.cells #[.bool dn,.slice C p q,.int .i64 de] 41)) (w.heap.size+1) 41 #[.bool dn,.slice C p q,.int .i64 de]:=Blk.newAt _ _ _ (by simp);go_enter Tryz.func249,Tryz.ntmps249
 go_wp2_with fail
 generalize (w.alloc (.cells #[.bool ln,.slice A n c,.int .i64 le,.bool un,.slice B m b,.int .i64 ue,.bool al] 43)).alloc (.cells #[.bool dn,.slice C p q,.int .i64 de] 41)=W0 at *;refine (zEj _ _ _ (HI.out _ hb0) HX.out).mono ?_;rintro e w1 ⟨rfl,hb1x⟩
 replace hb0:=zAA hb0 hb1x;replace k0:=k0.next hb1x;replace k1:=k1.next hb1x;clear hb1x;cases hv1:ivV ⟨⟨ln,ll,le⟩,⟨un,ul,ue⟩,al⟩
 ·rw [hv1] at HV
  clear hv1;go_wp2_with fail
  go_ret;exact ⟨by rw [HV.out];rfl,hb0⟩
 have HL:=Zh (fun ha=>zOF hv1 ha);dsimp only at HL;rw [hv1] at HV;clear hv1;obtain ⟨k0q0,k0q1,k0q2,k0q3,k0q4,k0q5,k0q6⟩:=k0.cells7;obtain ⟨k1q0,k1q1,k1q2⟩:=k1.cells3;go_wp2_with fail
 refine (zDO _ _ _ (H3.out _ hb0) HD.out).mono ?_;rintro e w2 ⟨rfl,hb2x⟩
 clear k0q0 k0q1 k0q2 k0q3 k0q4 k0q5 k0q6 k1q0 k1q1 k1q2;replace hb0:=zAA hb0 hb2x;replace k0:=k0.next hb2x;replace k1:=k1.next hb2x;clear hb2x;cases hv1:vld ⟨dn,dl,de⟩
 ·rw [hv1] at HV
  clear hv1;go_wp2_with fail
  go_ret;exact ⟨by rw [HV.out];rfl,hb0⟩
 have HU:=Zh hv1;rw [hv1] at HV;clear hv1;cases al
 ·obtain ⟨k0q0,k0q1,k0q2,k0q3,k0q4,k0q5,k0q6⟩:=k0.cells7
  obtain ⟨k1q0,k1q1,k1q2⟩:=k1.cells3;go_wp2_with fail
  refine (zOj _ _ _ _ _ (H1.out _ hb0) (H3.out _ hb0) (HL.out (by first | rfl | trivial)).1 HU.out).mono ?_;rintro e w3 ⟨rfl,hb3x⟩
  clear k0q0 k0q1 k0q2 k0q3 k0q4 k0q5 k0q6 k1q0 k1q1 k1q2;replace hb0:=zAA hb0 hb3x;replace k0:=k0.next hb3x;replace k1:=k1.next hb3x;clear hb3x;generalize zCH ⟨ln,ll,le⟩ ⟨dn,dl,de⟩=r1 at *;cases hv1:decide (r1<=0)
  ·rw [hv1] at HV
   go_wp2_with fail
   go_ret;exact ⟨by rw [HV.out];rfl,hb0⟩
  rw [hv1] at HV;obtain ⟨k0q0,k0q1,k0q2,k0q3,k0q4,k0q5,k0q6⟩:=k0.cells7;obtain ⟨k1q0,k1q1,k1q2⟩:=k1.cells3;go_wp2_with fail
  refine (zOj _ _ _ _ _ (H3.out _ hb0) (H2.out _ hb0) HU.out (HL.out (by first | rfl | trivial)).2).mono ?_;rintro e w4 ⟨rfl,hb4x⟩
  clear k0q0 k0q1 k0q2 k0q3 k0q4 k0q5 k0q6 k1q0 k1q1 k1q2;replace hb0:=zAA hb0 hb4x;replace k0:=k0.next hb4x;replace k1:=k1.next hb4x;clear hb4x;generalize zCH ⟨dn,dl,de⟩ ⟨un,ul,ue⟩=r2 at *;go_wp2_with fail
  go_ret;exact ⟨by rw [HV.out];rfl,hb0⟩
 ·obtain ⟨k0q0,k0q1,k0q2,k0q3,k0q4,k0q5,k0q6⟩:=k0.cells7
  obtain ⟨k1q0,k1q1,k1q2⟩:=k1.cells3;go_wp2_with fail
  go_ret;exact ⟨by rw [HV.out];rfl,hb0⟩
theorem zIy (A:Option Addr) (n c:Nat) (xs:List Iv) (w:World) (h:Sl 7 RI w A n c xs) (hx:∀x∈xs,BdI x):Calls Tryz.prog 114 #[.slice A n c] w (zBW (zEO xs) w):=by
 have HV:Hid (zEO xs=(decide (1<=n) && decide (n<=8) && !xs.any (fun x=>x.all || !ivV x))):=by unfold Hid zEO;rw [h.len]
 have hm:=h.cap;have hm2:=h.max;have HL:=Zh h.len;have HS:=Zh h;have HX:=Zh hx;clear h hx;by_cases h1:1<=n
 ·by_cases h8:n<=8
  ·rw [Yf h1,Yf h8] at HV
   go_enter Tryz.func114,Tryz.ntmps114
   go_wp2_with fail
   go_loopw [3] (fun i wr=>∃j:Nat,j<=n/\i=.int .i64 j/\Hid (∀ (m:Nat) (x:Iv),m<j->xs[m]? = some x->(x.all || !ivV x)=false)/\Below w.heap.size w wr) (fun i _=>n - (intOf i).toNat)
   case atStart=>exact ⟨0,Nat.zero_le _,rfl,fun m x hm=>absurd hm (by omega),Yp _ _⟩
   case round=>
    obtain ⟨j,hj,rfl,HZ,hb⟩:=hrel;by_cases hlt:j<n
    ·obtain ⟨b,off,x,vs,rfl,hbl,hxj,hk,hR,hc⟩:=HS.out.get hlt
     have HR:=Zh (zAX _ _ _ _ hR hb);have HB:=Zh (HX.out x (Yk hxj));have HJ:=Zh hxj;obtain ⟨A1,n1,c1,A2,n2,c2,rfl,hs1,hs2⟩:=hR;have q0:=(hb.cell (p:=⟨b,off+j*7,none⟩) hbl).trans (hc 0 _ rfl);have q1:=(hb.cell (p:=⟨b,off+j*7+1,none⟩) hbl).trans (hc 1 _ rfl);have q2:=(hb.cell (p:=⟨b,off+j*7+2,none⟩) hbl).trans (hc 2 _ rfl);have q3:=(hb.cell (p:=⟨b,off+j*7+3,none⟩) hbl).trans (hc 3 _ rfl);have q4:=(hb.cell (p:=⟨b,off+j*7+4,none⟩) hbl).trans (hc 4 _ rfl);have q5:=(hb.cell (p:=⟨b,off+j*7+5,none⟩) hbl).trans (hc 5 _ rfl);have q6:=(hb.cell (p:=⟨b,off+j*7+6,none⟩) hbl).trans (hc 6 _ rfl);clear hxj hc hk hs1 hs2;cases hal:x.all
     ·rw [hal] at q6
      have HAL:=Zh hal;have HR2:Hid (RI wr [.bool x.lo.neg,.slice A1 n1 c1,.int .i64 x.lo.e,.bool x.hi.neg,.slice A2 n2 c2,.int .i64 x.hi.e,.bool false] x):=by have:=HR.out;rwa [hal] at this
      clear hal;go_wp2_with fail
      refine (zEj _ _ _ HR2.out HB.out).mono ?_;rintro e w1 ⟨rfl,hb1⟩
      clear q0 q1 q2 q3 q4 q5 q6;cases hq:ivV x
      ·have HQ:=Zh hq
       clear hq;go_wp2_with fail
       go_ret;exact ⟨by rw [HV.out,zBC _ xs j x HJ.out (by rw [HAL.out,HQ.out];rfl)];rfl,zAt hb hb1 (Ya _)⟩
      ·have HQ:=Zh hq
       clear hq;go_wp2_with fail
       go_roundw
       case rel=>exact ⟨j+1,by omega,by go_num,fun m y hm hy=>by
        by_cases hmj:m<j
        ·exact HZ.out m y hmj hy
        ·obtain rfl:m=j:=by omega
         rw [HJ.out] at hy;injection hy with hy
         rw [<- hy,HAL.out,HQ.out];rfl,zAt hb hb1 (Ya _)⟩
       case measure=>simp [intOf];omega
     ·rw [hal] at q6
      have HAL:=Zh hal;clear hal;go_wp2_with fail
      go_ret;exact ⟨by rw [HV.out,zBC _ xs j x HJ.out (by rw [HAL.out];rfl)];rfl,hb⟩
    ·go_wp2_with fail
     go_ret;refine ⟨?_,hb⟩;rw [HV.out,zEN _ xs (fun m x hx=>HZ.out m x (by
      have:=(Yb.1 hx).1;have:=HL.out;omega) hx)]
     rfl
  ·go_enter Tryz.func114,Tryz.ntmps114
   go_wp2_with fail
   go_ret;exact ⟨by rw [HV.out,Yf h1,Ye (show ¬ n<=8 by omega)];rfl,Yp _ _⟩
 ·go_enter Tryz.func114,Tryz.ntmps114
  go_wp2_with fail
  go_ret;exact ⟨by rw [HV.out,Ye (show ¬ 1<=n by omega)];rfl,Yp _ _⟩
def zCk (N:Nat) (l:List Dy):Bool:=decide (l.length≠N) || l.any (fun d=>!vld d)
def zOc (m:List (List Dy)):Bool:=decide (1<=m.length) && decide (m.length<=8) && decide (1<=(m.headD []).length) && decide ((m.headD []).length<=8) && !m.any (zCk (m.headD []).length)
theorem zF2 (A:Option Addr) (n c:Nat) (m:List (List Dy)) (w:World) (h:Sl 1 RM w A n c m) (hx:∀l∈m,∀d∈l,Bd d):Calls Tryz.prog 115 #[.slice A n c] w (zBW (zOc m) w):=by
 have hm:=h.cap;have hm2:=h.max;obtain ⟨N0,hN0⟩:∃N0,(m.headD []).length=N0:=⟨_,rfl⟩;have HV:Hid (zOc m=(decide (1<=n) && decide (n<=8) && decide (1<=N0) && decide (N0<=8) && !m.any (zCk N0))):=by unfold Hid zOc;rw [h.len,hN0]
 have HL:=Zh h.len;have HX:=Zh hx;by_cases h1:1<=n
 rotate_left
 ·clear h hN0
  go_enter Tryz.func115,Tryz.ntmps115
  go_wp2_with fail
  go_ret;exact ⟨by rw [HV.out,Ye (show ¬ 1<=n by omega)];rfl,Yp _ _⟩
 by_cases h8:n<=8
 rotate_left
 ·clear h hN0
  go_enter Tryz.func115,Tryz.ntmps115
  go_wp2_with fail
  go_ret;exact ⟨by rw [HV.out,Yf h1,Ye (show ¬ n<=8 by omega)];rfl,Yp _ _⟩
 obtain ⟨b,off,l0,vs,rfl,hbl,hx0,hk0,hR0,hc0⟩:=h.get (j:=0) (by omega);obtain ⟨A0,n0,c0,rfl,hs0⟩:=hR0;have e0:n0=N0:=by
  rw [<- hN0,<- hs0.len];cases m with
  | nil=>simp at hx0
  | cons a t=>simp at hx0;rw [hx0];rfl
 subst e0;have q0:=hc0 0 _ rfl;rw [Nat.zero_mul,Nat.add_zero] at q0;have hm3:=hs0.cap;have hm4:=hs0.max;have HS:=Zh h;clear h hx hN0 hx0 hk0 hc0 hs0;by_cases g1:1<=n0
 rotate_left
 ·go_enter Tryz.func115,Tryz.ntmps115
  go_wp2_with fail
  go_ret;exact ⟨by rw [HV.out,Yf h1,Yf h8,Ye (show ¬ 1<=n0 by omega)];rfl,Yp _ _⟩
 by_cases g8:n0<=8
 rotate_left
 ·go_enter Tryz.func115,Tryz.ntmps115
  go_wp2_with fail
  go_ret;exact ⟨by rw [HV.out,Yf h1,Yf h8,Yf g1,Ye (show ¬ n0<=8 by omega)];rfl,Yp _ _⟩
 rw [Yf h1,Yf h8,Yf g1,Yf g8] at HV;go_enter Tryz.func115,Tryz.ntmps115
 go_wp2_with fail
 have Q0:=Zh q0;clear q0
 go_loopw [3] (fun v wr=>∃i:Nat,i<=n/\v=.int .i64 i/\Hid (∀ (j:Nat) (l:List Dy),j<i->m[j]? = some l->zCk n0 l=false)/\Below w.heap.size w wr) (fun v _=>n - (intOf v).toNat)
 case atStart=>exact ⟨0,Nat.zero_le _,rfl,fun j l hj=>absurd hj (by omega),Yp _ _⟩
 case round=>
  obtain ⟨i,hi,rfl,HZ,hb⟩:=hrel;by_cases hlt:i<n
  ·obtain ⟨l,vs,hbl1,hml,hk,hR,hc⟩:=HS.out.get' hlt
   obtain ⟨A1,n1,c1,rfl,hs⟩:=hR;have qt:=hc 0 _ rfl;rw [Nat.mul_one,Nat.add_zero] at qt;have QI:=Zh qt;have q0:=(hb.cell (p:=⟨b,off,none⟩) hbl).trans Q0.out;have q1:=(hb.cell (p:=⟨b,off+i,none⟩) hbl).trans qt;have HM:=Zh hml;have HS1:=Zh hs;have HXl:=Zh (HX.out l (Yk hml));have HL1:=Zh hs.len;have m3:=hs.cap;have m4:=hs.max;clear hc qt hk hml hs;by_cases hn:n1=n0
   rotate_left
   ·have hne:((n1:Int) != (n0:Int))=true:=by rw [bne_iff_ne];omega
    have HB:Hid (zCk n0 l=true):=by unfold Hid zCk;rw [HL1.out,Yf (show n1≠n0 from hn)];rfl
    go_wp2_with fail
    go_quiet (fail)
    go_wp2_with fail
    go_ret;exact ⟨by rw [HV.out,zBC _ m i l HM.out HB.out];rfl,zAR hb _⟩
   have hne:((n1:Int) != (n0:Int))=false:=by rw [hn];simp
   have HN:=Zh hn;clear hn;go_wp2_with fail
   go_quiet (fail)
   go_wp2_with fail
   replace hb:=zAR hb nq;generalize wr.drewN nq=W1 at *;clear q0 q1
   go_loopw [4] (fun v wi=>∃k:Nat,k<=n1/\v=.int .i64 k/\Hid (∀ (j:Nat) (d:Dy),j<k->l[j]? = some d->(!vld d)=false)/\Below w.heap.size w wi) (fun v _=>n1 - (intOf v).toNat)
   case atStart=>exact ⟨0,Nat.zero_le _,rfl,fun j l hj=>absurd hj (by omega),hb⟩
   case round=>
    clear hb;obtain ⟨k,hk,rfl,HZ1,hb⟩:=hrel;have q1:=(hb.cell (p:=⟨b,off+i,none⟩) hbl).trans QI.out;by_cases hlt1:k<n1
    ·obtain ⟨b1,off1,d,us,rfl,hbl2,hd,hk1,hR1,hc1⟩:=HS1.out.get hlt1
     have HBd:=Zh (HXl.out d (Yk hd));have HR1:=Zh (zAQ _ _ _ _ hR1 hb);obtain ⟨DA,dm,dc,rfl,hsd⟩:=hR1;have p0:=(hb.cell (p:=⟨b1,off1+k*3,none⟩) hbl2).trans (hc1 0 _ rfl);have p1:=(hb.cell (p:=⟨b1,off1+k*3+1,none⟩) hbl2).trans (hc1 1 _ rfl);have p2:=(hb.cell (p:=⟨b1,off1+k*3+2,none⟩) hbl2).trans (hc1 2 _ rfl);have HD:=Zh hd;clear hd hc1 hk1 hsd;go_wp2_with fail
     refine (zDO _ _ _ HR1.out HBd.out).mono ?_;rintro e w1 ⟨rfl,hb1⟩
     replace hb:=zAt hb hb1 (Ya _);clear p0 p1 p2 q1 hb1;cases hv:vld d
     ·have HVD:=Zh hv
      clear hv;have HB:Hid (zCk n0 l=true):=by unfold Hid zCk;rw [zBC (fun d=>!vld d) l k d HD.out (by rw [HVD.out];rfl),Bool.or_true]
      go_wp2_with fail
      go_ret;exact ⟨by rw [HV.out,zBC _ m i l HM.out HB.out];rfl,hb⟩
     ·have HVD:=Zh hv
      clear hv;go_wp2_with fail
      go_roundw
      case rel=>exact ⟨k+1,by omega,by go_num,fun j d' hj hd'=>by
       by_cases hjk:j<k
       ·exact HZ1.out j d' hjk hd'
       ·obtain rfl:j=k:=by omega
        rw [HD.out] at hd';injection hd' with hd'
        rw [<- hd',HVD.out];rfl,hb⟩
      case measure=>simp [intOf];omega
    ·have HRow:Hid (zCk n0 l=false):=by
      unfold Hid zCk;rw [HL1.out,Ye (show ¬ n1≠n0 by have:=HN.out;omega),zEN _ l (fun j d hd=>HZ1.out j d (by
       have:=(Yb.1 hd).1;have:=HL1.out;omega) hd)]
      rfl
     go_wp2_with fail
     go_roundw
     case rel=>exact ⟨i+1,by omega,by go_num,fun j l' hj hl'=>by
      by_cases hji:j<i
      ·exact HZ.out j l' hji hl'
      ·obtain rfl:j=i:=by omega
       rw [HM.out] at hl';injection hl' with hl'
       rw [<- hl'];exact HRow.out,hb⟩
     case measure=>simp [intOf];omega
  ·go_wp2_with fail
   go_ret;refine ⟨?_,hb⟩;rw [HV.out,zEN _ m (fun j l hl=>HZ.out j l (by
    have:=(Yb.1 hl).1;have:=HL.out;omega) hl)]
   rfl
theorem zRc {a:List (List Dy)}{n:Nat}(h1:1<=n) (h8:n<=8) (ha:a.length=n):(zOc a && decide ((a.headD []).length=n)) = !a.any (zCk n):=by
 cases hb:a.any (zCk n)
 ·have h:=List.any_eq_false.1 hb
  cases a with
  | nil=>simp at ha;omega
  | cons l t=>
   have hl:=h l (by simp);have e:l.length=n:=by
    unfold zCk at hl;simp only [Bool.not_eq_true,Xc,decide_eq_false_iff_not,Decidable.not_not] at hl;exact hl.1
   unfold zOc;rw [show ((l::t).headD []).length=l.length from rfl,e,hb,ha,Yf h1,Yf h8];simp
 ·by_cases e:(a.headD []).length=n
  ·unfold zOc
   rw [e,hb];simp
  ·rw [Ye e]
   simp
theorem zSK {f:Fr}{n m p:Nat}(hc:f.c.length=n) (ha:f.a.length=m) (hr:f.r.length=p):frV f=(decide (1<=n) && decide (n<=8) && decide (m=n) && decide (p=n) && zOc f.a && decide ((f.a.headD []).length=n) && (!f.c.any (fun d=>!vld d) && !f.r.any (fun x=>x.all || !zCM x zAZ))):=by
 unfold frV;rw [hc,ha,hr];by_cases h1:1<=n
 ·by_cases h8:n<=8
  ·by_cases hm:m=n
   ·have:=zRc h1 h8 (by rw [ha,hm])
    rw [Yf h1,Yf h8,Yf hm];simp only [Bool.true_and];rw [Bool.and_assoc (decide (p=n)) (zOc f.a),this]
    show _=_
    have e:f.a.any (fun l=>decide (l.length≠n) || l.any (fun d=>!vld d))=f.a.any (zCk n):=rfl;rw [e];generalize f.c.any (fun d=>!vld d)=x1;generalize f.a.any (zCk n)=x2;generalize f.r.any (fun x=>x.all || !zCM x zAZ)=x3;generalize decide (p=n)=x4;cases x1 <;> cases x2 <;> cases x3 <;> cases x4 <;> rfl
   ·rw [Ye hm];simp
  ·rw [Ye h8];simp
 ·rw [Ye h1];simp
theorem zHA (vs:List Value) (f:Fr) (w:World) (h:RF w vs f) (hx:BdF f):Calls Tryz.prog 184 #[.agg vs.toArray] w (zBW (frV f) w):=by
 obtain ⟨A,n,c,B,m,d,C,p,q,rfl,h1,h2,h3⟩:=h;obtain ⟨N0,hN0⟩:∃N0,(f.a.headD []).length=N0:=⟨_,rfl⟩;have HV:=Zh (zSK h1.len h2.len h3.len);rw [hN0] at HV;have m1:=h1.cap;have m2:=h1.max;have m3:=h2.cap;have m4:=h2.max;have m5:=h3.cap;have m6:=h3.max;have HL1:=Zh h1.len;have HL3:=Zh h3.len;have hb0:=zAE w (.cells #[.slice A n c,.slice B m d,.slice C p q] 26);have k0:=Blk.new w 26 #[.slice A n c,.slice B m d,.slice C p q];have HA:=Zh (fun W (hb:Below w.heap.size w W)=>zF2 B m d f.a W (h2.next zAh hb) hx.a);have HS1:=Zh h1;have HS3:=Zh h3;have HR0:Hid (0<m->∃ (b off:Nat) (A0:Option Addr) (c0:Nat),B=some ⟨b,off,none⟩/\b<w.heap.size/\w.cell? ⟨b,off,none⟩=some (.slice A0 N0 c0)/\N0<=c0/\c0<=9223372036854775807):=fun hm=>by
  obtain ⟨b,off,l0,vs,e,hbl,hx0,hk0,hR0,hc0⟩:=h2.get (j:=0) hm;obtain ⟨A0,n0,c0,rfl,hs0⟩:=hR0;have e0:n0=N0:=by
   rw [<- hN0,<- hs0.len];cases ha:f.a with
   | nil=>rw [ha] at hx0;simp at hx0
   | cons a t=>rw [ha] at hx0;simp at hx0;rw [hx0];rfl
  subst e0;have q0:=hc0 0 _ rfl;rw [Nat.zero_mul,Nat.add_zero] at q0;exact ⟨b,off,A0,c0,e,hbl,q0,hs0.cap,hs0.max⟩
 have HX:=Zh hx;clear h1 h2 h3 hx hN0;generalize zOc f.a=nv at *;by_cases e1:1<=n
 rotate_left
 ·rw [Ye e1] at HV
  clear k0 HA HS1 HS3 HR0;go_enter Tryz.func184,Tryz.ntmps184
  go_wp2_with fail
  go_ret;exact ⟨by rw [HV.out];first | rfl | simp,hb0⟩
 rw [Yf e1] at HV;by_cases e2:n<=8
 rotate_left
 ·rw [Ye e2] at HV
  clear k0 HA HS1 HS3 HR0;go_enter Tryz.func184,Tryz.ntmps184
  go_wp2_with fail
  go_ret;exact ⟨by rw [HV.out];first | rfl | simp,hb0⟩
 rw [Yf e2] at HV;by_cases e3:m=n
 rotate_left
 ·rw [Ye e3] at HV
  clear k0 HA HS1 HS3 HR0;have hne:((m:Int) != (n:Int))=true:=by rw [bne_iff_ne];omega
  go_enter Tryz.func184,Tryz.ntmps184
  go_wp2_with fail
  go_ret;exact ⟨by rw [HV.out];first | rfl | simp,hb0⟩
 rw [Yf e3] at HV;have he3:((m:Int) != (n:Int))=false:=by rw [e3];simp
 have em:0<m:=by omega
 clear e3;by_cases e4:p=n
 rotate_left
 ·rw [Ye e4] at HV
  clear k0 HA HS1 HS3 HR0;have hne:((p:Int) != (n:Int))=true:=by rw [bne_iff_ne];omega
  go_enter Tryz.func184,Tryz.ntmps184
  go_wp2_with fail
  go_ret;exact ⟨by rw [HV.out];first | rfl | simp,hb0⟩
 rw [Yf e4] at HV;have he4:((p:Int) != (n:Int))=false:=by rw [e4];simp
 have HE4:=Zh e4;clear e4;obtain ⟨b0,off0,A0,c0,rfl,hbl0,q00,g1,g2⟩:=HR0.out em;have Q00:=Zh q00;clear q00 HR0;go_enter Tryz.func184,Tryz.ntmps184
 go_wp2_with fail
 generalize w.alloc (.cells #[.slice A n c,.slice (some ⟨b0,off0,none⟩) m d,.slice C p q] 26)=W0 at *;refine (HA.out _ hb0).mono ?_;rintro e w1 ⟨rfl,hb1x⟩
 replace hb0:=zAA hb0 hb1x;replace k0:=k0.next hb1x;clear hb1x;simp only [Bool.true_and] at HV;cases hv1:nv
 ·rw [hv1] at HV
  clear hv1;go_wp2_with fail
  go_ret;exact ⟨by rw [HV.out];first | rfl | simp,hb0⟩
 rw [hv1] at HV;clear hv1;have z0:=(hb0.cell (p:=⟨b0,off0,none⟩) hbl0).trans Q00.out;by_cases e5:N0=n
 rotate_left
 ·rw [Ye e5] at HV
  have hne:((N0:Int) != (n:Int))=true:=by rw [bne_iff_ne];omega
  obtain ⟨k0q0,k0q1,k0q2⟩:=k0.cells3;go_wp2_with fail
  go_ret;exact ⟨by rw [HV.out];first | rfl | simp,hb0⟩
 rw [Yf e5] at HV;have he5:((N0:Int) != (n:Int))=false:=by rw [e5];simp
 clear e5;obtain ⟨k0q0,k0q1,k0q2⟩:=k0.cells3;go_wp2_with fail
 clear z0;clear k0q0 k0q1 k0q2
 go_loopw [4] (fun v wr=>∃i:Nat,i<=n/\v=.int .i64 i/\Hid (∀ (j:Nat) (y:Dy),j<i->f.c[j]? = some y->(!vld y)=false)/\Hid (∀ (j:Nat) (x:Iv),j<i->f.r[j]? = some x->(x.all || !zCM x zAZ)=false)/\Below w.heap.size w wr/\Blk wr w.heap.size 26 #[.slice A n c,.slice (some ⟨b0,off0,none⟩) m d,.slice C p q]) (fun v _=>n - (intOf v).toNat)
 case atStart=>exact ⟨0,Nat.zero_le _,rfl,fun j l hj=>absurd hj (by omega),fun j l hj=>absurd hj (by omega),hb0,k0⟩
 case round=>
  clear hb0 k0;obtain ⟨i,hi,rfl,HZ1,HZ3,hbr,k0⟩:=hrel;obtain ⟨k0q0,k0q1,k0q2⟩:=k0.cells3;by_cases hlt:i<n
  ·have hip:i<p:=by have:=HE4.out;omega
   obtain ⟨b1,off1,x,vs,rfl,hbl1,hxi,hk,hR,hc⟩:=HS3.out.get (j:=i) hip;have HRI:=Zh (zAX _ _ _ _ hR hbr);have HBI:=Zh (HX.out.r x (Yk hxi));obtain ⟨A1,n1,c1,A2,n2,c2,rfl,hs1,hs2⟩:=hR;have q0:=(hbr.cell (p:=⟨b1,off1+i*7,none⟩) hbl1).trans (hc 0 _ rfl);have q1:=(hbr.cell (p:=⟨b1,off1+i*7+1,none⟩) hbl1).trans (hc 1 _ rfl);have q2:=(hbr.cell (p:=⟨b1,off1+i*7+2,none⟩) hbl1).trans (hc 2 _ rfl);have q3:=(hbr.cell (p:=⟨b1,off1+i*7+3,none⟩) hbl1).trans (hc 3 _ rfl);have q4:=(hbr.cell (p:=⟨b1,off1+i*7+4,none⟩) hbl1).trans (hc 4 _ rfl);have q5:=(hbr.cell (p:=⟨b1,off1+i*7+5,none⟩) hbl1).trans (hc 5 _ rfl);have q6:=(hbr.cell (p:=⟨b1,off1+i*7+6,none⟩) hbl1).trans (hc 6 _ rfl);have HXI:=Zh hxi;clear hxi hk hc hs1 hs2;obtain ⟨b2,off2,y,us,rfl,hbl2,hyi,hk,hR,hc⟩:=HS1.out.get hlt;have HRD:=Zh (zAQ _ _ _ _ hR hbr);have HBD:=Zh (HX.out.c y (Yk hyi));obtain ⟨A3,n3,c3,rfl,hs3⟩:=hR;have p0:=(hbr.cell (p:=⟨b2,off2+i*3,none⟩) hbl2).trans (hc 0 _ rfl);have p1:=(hbr.cell (p:=⟨b2,off2+i*3+1,none⟩) hbl2).trans (hc 1 _ rfl);have p2:=(hbr.cell (p:=⟨b2,off2+i*3+2,none⟩) hbl2).trans (hc 2 _ rfl);have HYI:=Zh hyi;clear hyi hk hc hs3;have kx:=Blk.new wr 43 #[.bool x.lo.neg,.slice A1 n1 c1,.int .i64 x.lo.e,.bool x.hi.neg,.slice A2 n2 c2,.int .i64 x.hi.e,.bool x.all];have hb1:=zAE wr (.cells #[.bool x.lo.neg,.slice A1 n1 c1,.int .i64 x.lo.e,.bool x.hi.neg,.slice A2 n2 c2,.int .i64 x.hi.e,.bool x.all] 43);have j0:=k0.next hb1;obtain ⟨j0q0,j0q1,j0q2⟩:=j0.cells3;have hl2:=Yh hbl2 hbr.size;have s0:=(hb1.cell (p:=⟨b2,off2+i*3,none⟩) hl2).trans p0;have s1:=(hb1.cell (p:=⟨b2,off2+i*3+1,none⟩) hl2).trans p1;have s2:=(hb1.cell (p:=⟨b2,off2+i*3+2,none⟩) hl2).trans p2;replace HRI:=Zh (zAX _ _ _ _ HRI.out hb1);replace HRD:=Zh (zAQ _ _ _ _ HRD.out hb1);replace hbr:=zAt hbr hb1 (Ya _);clear p0 p1 p2 hb1 hl2;go_wp2_with fail
   clear k0 k0q0 k0q1 k0q2 q0 q1 q2 q3 q4 q5 q6;generalize wr.alloc (.cells #[.bool x.lo.neg,.slice A1 n1 c1,.int .i64 x.lo.e,.bool x.hi.neg,.slice A2 n2 c2,.int .i64 x.hi.e,.bool x.all] 43)=W1 at *;generalize wr.heap.size=gx at *;refine (zDO _ _ _ HRD.out HBD.out).mono ?_;rintro e w1 ⟨rfl,hb1⟩
   clear s0 s1 s2 j0q0 j0q1 j0q2;replace hbr:=zAt hbr hb1 (Ya _);replace kx:=kx.next hb1;replace j0:=j0.next hb1;replace HRI:=Zh (zAX _ _ _ _ HRI.out hb1);clear hb1 HRD;cases hv:vld y
   ·have HB:Hid (f.c.any (fun d=>!vld d)=true):=zBC _ f.c i y HYI.out (by rw [hv];rfl)
    clear hv;go_wp2_with fail
    go_ret;exact ⟨by rw [HV.out,HB.out];first | rfl | simp,hbr⟩
   have HVY:=Zh hv;clear hv;obtain ⟨xq0,xq1,xq2,xq3,xq4,xq5,xq6⟩:=kx.cells7;go_wp2_with fail
   refine (zEj _ _ _ HRI.out HBI.out).mono ?_;rintro e w2 ⟨rfl,hb1⟩
   clear xq0 xq1 xq2 xq3 xq4 xq5 xq6;replace hbr:=zAt hbr hb1 (Ya _);replace kx:=kx.next hb1;replace j0:=j0.next hb1;replace HRI:=Zh (zAX _ _ _ _ HRI.out hb1);clear hb1;cases hv:ivV x
   ·have HB:Hid (f.r.any (fun x=>x.all || !zCM x zAZ)=true):=zBC _ f.r i x HXI.out (by unfold zCM;rw [hv];simp)
    clear hv;go_wp2_with fail
    go_ret;exact ⟨by rw [HV.out,HB.out];first | rfl | simp,hbr⟩
   clear hv;obtain ⟨xq0,xq1,xq2,xq3,xq4,xq5,xq6⟩:=kx.cells7;rcases Bool.eq_false_or_eq_true x.all with hal | hal
   ·have HB:Hid (f.r.any (fun x=>x.all || !zCM x zAZ)=true):=zBC _ f.r i x HXI.out (by rw [hal];rfl)
    rw [hal] at xq6;clear hal;go_wp2_with fail
    go_ret;exact ⟨by rw [HV.out,HB.out];first | rfl | simp,hbr⟩
   have HAL:=Zh hal;rw [hal] at xq6;have HRI2:=HRI.out;rw [hal] at HRI2;replace HRI2:=Zh HRI2;clear hal;go_wp2_with fail
   refine (zOr _ [.bool false,.slice none 0 0,.int .i64 0] _ zAZ _ HRI2.out ⟨none,0,0,rfl,SL.nil _⟩ HBI.out zKg).mono ?_;rintro e w3 ⟨rfl,hb1⟩
   clear xq0 xq1 xq2 xq3 xq4 xq5 xq6;replace hbr:=zAt hbr hb1 (Ya _);replace j0:=j0.next hb1;clear hb1 kx;cases hh:zCM x zAZ
   ·have HB:Hid (f.r.any (fun x=>x.all || !zCM x zAZ)=true):=zBC _ f.r i x HXI.out (by rw [hh,Bool.not_false,Bool.or_true])
    clear hh;go_wp2_with fail
    go_ret;exact ⟨by rw [HV.out,HB.out];first | rfl | simp,hbr⟩
   have HH:=Zh hh;clear hh;go_wp2_with fail
   go_roundw
   case rel=>exact ⟨i+1,by omega,by go_num,fun j d' hj hd'=>by
    by_cases hjk:j<i
    ·exact HZ1.out j d' hjk hd'
    ·obtain rfl:j=i:=by omega
     rw [HYI.out] at hd';injection hd' with hd'
     rw [<- hd',HVY.out];rfl,fun j d' hj hd'=>by
    by_cases hjk:j<i
    ·exact HZ3.out j d' hjk hd'
    ·obtain rfl:j=i:=by omega
     rw [HXI.out] at hd';injection hd' with hd'
     rw [<- hd',HAL.out,HH.out];rfl,hbr,j0⟩
   case measure=>simp [intOf];omega
  ·go_wp2_with fail
   go_ret;refine ⟨?_,hbr⟩;rw [HV.out,zEN _ f.c (fun j y hy=>HZ1.out j y (by
    have:=(Yb.1 hy).1;have:=HL1.out;omega) hy),zEN _ f.r (fun j y hy=>HZ3.out j y (by
    have:=(Yb.1 hy).1;have:=HL3.out;have:=HE4.out;omega) hy)]
   rfl
theorem zIC (N:Nat) (vs:List Value) (f:Fr) (w:World) (h:RF w vs f) (hx:BdF f):Calls Tryz.prog 112 #[.agg vs.toArray,.int .i64 N] w (zBW (frV f && decide (f.c.length=N)) w):=by
 obtain ⟨A,n,c,B,m,d,C,p,q,rfl,h1,h2,h3⟩:=h;have r1:RF w [.slice A n c,.slice B m d,.slice C p q] f:=⟨A,n,c,B,m,d,C,p,q,rfl,h1,h2,h3⟩;have hb0:=zAE w (.cells #[.slice A n c,.slice B m d,.slice C p q] 26);have k0:=Blk.new w 26 #[.slice A n c,.slice B m d,.slice C p q];have H1:=Zh (zHA _ f _ (zBs _ _ _ _ r1 hb0) hx);obtain ⟨r,hr⟩:∃r,frV f=r:=⟨_,rfl⟩;have HV:Hid ((frV f && decide (f.c.length=N))=(r && decide (n=N))):=by unfold Hid;rw [h1.len,hr]
 rw [hr] at H1;have m1:=h1.cap;have m2:=h1.max;clear h1 h2 h3 r1 hx hr;go_enter Tryz.func112,Tryz.ntmps112
 go_wp2_with fail
 generalize w.alloc (.cells #[.slice A n c,.slice B m d,.slice C p q] 26)=W0 at *;refine H1.out.mono ?_;rintro e w1 ⟨rfl,hb1⟩
 replace hb0:=zAA hb0 hb1;replace k0:=k0.next hb1;clear hb1;obtain ⟨k0q0,k0q1,k0q2⟩:=k0.cells3;cases r
 ·go_wp2_with fail
  go_ret;exact ⟨by rw [HV.out];rfl,hb0⟩
 by_cases hn:n=N
 ·have hn2:((n:Int) == (N:Int))=true:=by rw [hn];simp
  have HN:=Zh (Yf hn);clear hn;go_wp2_with fail
  go_ret;exact ⟨by rw [HV.out,HN.out];rfl,hb0⟩
 ·have hn2:((n:Int) == (N:Int))=false:=by rw [Xh];omega
  have HN:=Zh (Ye hn);clear hn;go_wp2_with fail
  go_ret;exact ⟨by rw [HV.out,HN.out];rfl,hb0⟩
def zPY (i k:Nat) (d:Dy):Bool:=eqD d (if i=k then zNR else zAZ)
def zFK (i:Nat) (l:List Dy):Bool:=zMZ (zPY i) 0 l
def zPZ (m:List (List Dy)):Bool:=zMZ zFK 0 m
theorem zQ7:vld zNR=true:=by kernel_rfl
theorem zOT:zAV zNR.l:=by unfold zNR;exact zAV.single (by omega)
theorem zSf:zAV zAZ.l:=by intro x hx;cases hx
theorem zUD {m:List (List Dy)}(hv:∀l∈m,∀d∈l,vld d=true) (hL:∀l∈m,∀d∈l,zAV d.l):idM m=zPZ m:=by
 unfold idM zPZ;refine zNb _ _ m 0 (fun i l hl=>?_);unfold zIi zFK;refine zNb _ _ l 0 (fun k d hd=>?_);have h1:=hv l (Yk hl) d (Yk hd);have h2:=hL l (Yk hl) d (Yk hd);unfold idC zPY
 split
 ·rw [<- zJX h2 zOT h1 zQ7];rfl
 ·rw [<- zJX h2 zSf h1 zEG];rfl
theorem zI4 {W:World}{A:Option Addr}{n c:Nat}{l:List Dy}(h:Sl 3 RD W A n c l):∀d∈l,zAV d.l:=by
 intro d hd;obtain ⟨j,hj⟩:=List.getElem?_of_mem hd;have hlt:j<n:=by have:=(Yb.1 hj).1;have:=h.len;omega
 obtain ⟨b,off,x,vs,_,_,hx,_,⟨A1,n1,c1,_,hs⟩,_⟩:=h.get hlt;rw [hj] at hx;injection hx with hx
 rw [hx];exact hs.lt
theorem zFI {W:World}{A:Option Addr}{n c:Nat}{m:List (List Dy)}(h:Sl 1 RM W A n c m):∀l∈m,∀d∈l,zAV d.l:=by
 intro l hl;obtain ⟨j,hj⟩:=List.getElem?_of_mem hl;have hlt:j<n:=by have:=(Yb.1 hj).1;have:=h.len;omega
 obtain ⟨b,off,x,vs,_,_,hx,_,⟨A1,n1,c1,_,hs⟩,_⟩:=h.get hlt;rw [hj] at hx;injection hx with hx
 rw [hx];exact zI4 hs
theorem zOx (A:Option Addr) (n c:Nat) (m:List (List Dy)) (w:World) (h:Sl 1 RM w A n c m):Calls Tryz.prog 113 #[.slice A n c] w (zBW (zPZ m) w):=by
 have m1:=h.cap;have m2:=h.max;have HL:=Zh h.len;have HS:=Zh h;clear h;go_enter Tryz.func113,Tryz.ntmps113
 go_wp2_with fail
 go_loopw [3] (fun v wr=>∃i:Nat,i<=n/\v=.int .i64 i/\Hid (∀ (j:Nat) (l:List Dy),j<i->m[j]? = some l->zFK j l=true)/\Below w.heap.size w wr) (fun v _=>n - (intOf v).toNat)
 case atStart=>exact ⟨0,Nat.zero_le _,rfl,fun j l hj=>absurd hj (by omega),Yp _ _⟩
 case round=>
  obtain ⟨i,hi,rfl,HZ,hb⟩:=hrel;by_cases hlt:i<n
  ·obtain ⟨b,off,l,vs,rfl,hbl,hml,hk,hR,hc⟩:=HS.out.get hlt
   obtain ⟨A1,n1,c1,rfl,hs⟩:=hR;have qt:=hc 0 _ rfl;rw [Nat.mul_one,Nat.add_zero] at qt;have QI:=Zh qt;have HM:=Zh hml;have HS1:=Zh hs;have HL1:=Zh hs.len;have m3:=hs.cap;have m4:=hs.max;clear hc qt hk hml hs;go_wp2_with fail
   go_loopw [4] (fun v wi=>∃k:Nat,k<=n1/\v=.int .i64 k/\Hid (∀ (j:Nat) (d:Dy),j<k->l[j]? = some d->zPY i j d=true)/\Below w.heap.size w wi) (fun v _=>n1 - (intOf v).toNat)
   case atStart=>exact ⟨0,Nat.zero_le _,rfl,fun j l hj=>absurd hj (by omega),hb⟩
   case round=>
    clear hb;obtain ⟨k,hk,rfl,HZ1,hb⟩:=hrel;have q1:=(hb.cell (p:=⟨b,off+i,none⟩) hbl).trans QI.out;by_cases hlt1:k<n1
    ·obtain ⟨b1,off1,d,us,rfl,hbl1,hd,hk1,hR1,hc1⟩:=HS1.out.get hlt1
     have HR1:=Zh (fun W (hW:Below w.heap.size w W)=>zAQ _ _ _ _ hR1 hW);obtain ⟨DA,dm,dc,rfl,hsd⟩:=hR1;obtain ⟨dn,dl,de⟩:=d;dsimp only at HR1 hc1;have C0:Hid (w.cell? ⟨b1,off1+k*3,none⟩=some (.bool dn)):=hc1 0 _ rfl;have C1:Hid (w.cell? ⟨b1,off1+k*3+1,none⟩=some (.slice DA dm dc)):=hc1 1 _ rfl;have C2:Hid (w.cell? ⟨b1,off1+k*3+2,none⟩=some (.int .i64 de)):=hc1 2 _ rfl;have HD:=Zh hd;clear hd hc1 hk1 hsd;by_cases hik:i=k
     ·have HE:Hid (zPY i k ⟨dn,dl,de⟩=eqD ⟨dn,dl,de⟩ zNR):=by unfold Hid zPY;rw [if_pos hik]
      have hik2:((i:Int) == (k:Int))=true:=by rw [hik];simp
      clear hik;go_wp2_with fail
      refine (zKF _).mono ?_;rintro e w1 ⟨ZA,zn,zc,rfl,hs0,hf0,hb1⟩
      clear q1;replace hb:=zAt hb hb1 (Ya _);clear hb1 hs0 hf0;have hgz:=hb.size;have kz:=Blk.new w1 41 #[.bool false,.slice ZA zn zc,.int .i64 0];have hb1:=zAE w1 (.cells #[.bool false,.slice ZA zn zc,.int .i64 0] 41);replace hb:=zAt hb hb1 (Ya _);clear hb1;go_wp2_with fail
      generalize w1.alloc (.cells #[.bool false,.slice ZA zn zc,.int .i64 0] 41)=W2 at *;generalize w1.heap.size=gz at *;refine (zQn _).mono ?_;rintro e w2 ⟨OA,on,oc,rfl,hs1,hf1,hb1⟩
      replace hb:=zAt hb hb1 (Ya _);have hoff:=Off.fresh hf1 kz.lt;replace kz:=kz.next hb1;clear hb1 hf1;dsimp only at hs1;obtain ⟨z0,z1,z2⟩:=kz.cells3;have f0:=kz.frozen 0;have f1:=kz.frozen 1;have f2:=kz.frozen 2;have KZ:=kz.set3 (.bool false) (.slice OA on oc) (.int .i64 0);have hsz:=hs1.off3 hoff (.bool false) (.slice OA on oc) (.int .i64 0);have HB:=zAG hb hgz (.bool false) (.slice OA on oc) (.int .i64 0);go_wp2_with fail
      generalize ((w2.setCell ⟨gz,0,none⟩ (.bool false)).setCell ⟨gz,1,none⟩ (.slice OA on oc)).setCell ⟨gz,2,none⟩ (.int .i64 0)=W9 at *;clear z0 z1 z2 f0 f1 f2 kz hs1 hb;have kz:=KZ;have hb:=HB;clear KZ HB;have HK:Hid (∀V,Below W9.heap.size W9 V->(fun V=>V.cell? ⟨b,off+i,none⟩=some (.slice (some ⟨b1,off1,none⟩) n1 c1)/\(V.cell? ⟨b1,off1+k*3,none⟩=some (.bool dn)/\V.cell? ⟨b1,off1+k*3+1,none⟩=some (.slice DA dm dc)/\V.cell? ⟨b1,off1+k*3+2,none⟩=some (.int .i64 de))/\(V.cell? ⟨gz,0,none⟩=some (.bool false)/\V.cell? ⟨gz,1,none⟩=some (.slice OA on oc)/\V.cell? ⟨gz,2,none⟩=some (.int .i64 0))/\Below W9.heap.size W9 V) V):=fun V hV=>⟨(hb.trans (hV.mono hb.size) |>.cell (p:=⟨b,off+i,none⟩) hbl).trans QI.out,⟨((hb.trans (hV.mono hb.size)).cell (p:=⟨b1,off1+k*3,none⟩) hbl1).trans C0.out,((hb.trans (hV.mono hb.size)).cell (p:=⟨b1,off1+k*3+1,none⟩) hbl1).trans C1.out,((hb.trans (hV.mono hb.size)).cell (p:=⟨b1,off1+k*3+2,none⟩) hbl1).trans C2.out⟩,(kz.next hV).cells3,hV⟩
      have hB:=zBw W9;refine wp_region_held_drew (S:=(fun V=>V.cell? ⟨b,off+i,none⟩=some (.slice (some ⟨b1,off1,none⟩) n1 c1)/\(V.cell? ⟨b1,off1+k*3,none⟩=some (.bool dn)/\V.cell? ⟨b1,off1+k*3+1,none⟩=some (.slice DA dm dc)/\V.cell? ⟨b1,off1+k*3+2,none⟩=some (.int .i64 de))/\(V.cell? ⟨gz,0,none⟩=some (.bool false)/\V.cell? ⟨gz,1,none⟩=some (.slice OA on oc)/\V.cell? ⟨gz,2,none⟩=some (.int .i64 0))/\Below W9.heap.size W9 V)) (by kernel_rfl) (HK.out _ hB) (fun hH=>?_);refine tk (i:=0) (oi:=⟨_,_,_,_,_,_⟩) (v:=?_) rfl (by rfl) ?_ hH ?_;rotate_left
      ·(intro w hSw; (try dsimp only at hSw);go_simp;try (with_reducible rfl))
      simp only [Act.put,sT,sZ,sS];refine tk (i:=1) (oi:=⟨_,_,_,_,_,_⟩) (v:=?_) rfl (by rfl) ?_ hH ?_;rotate_left
      ·(intro w hSw; (try dsimp only at hSw);go_simp;try (with_reducible rfl))
      simp only [Act.put,sT,sZ,sS];refine tk (i:=2) (oi:=⟨_,_,_,_,_,_⟩) (v:=?_) rfl (by rfl) ?_ hH ?_;rotate_left
      ·(intro w hSw; (try dsimp only at hSw);go_simp;try (with_reducible rfl))
      simp only [Act.put,sT,sZ,sS];refine tk (i:=3) (oi:=⟨_,_,_,_,_,_⟩) (v:=?_) rfl (by rfl) ?_ hH ?_;rotate_left
      ·(intro w hSw; (try dsimp only at hSw);go_simp;try (with_reducible rfl))
      simp only [Act.put,sT,sZ,sS];refine tk (i:=4) (oi:=⟨_,_,_,_,_,_⟩) (v:=?_) rfl (by rfl) ?_ hH ?_;rotate_left
      ·(intro w hSw; (try dsimp only at hSw);go_simp;try (with_reducible rfl))
      simp only [Act.put,sT,sZ,sS];refine tk (i:=5) (oi:=⟨_,_,_,_,_,_⟩) (v:=?_) rfl (by rfl) ?_ hH ?_;rotate_left
      ·(intro w hSw; (try dsimp only at hSw);go_simp;try (with_reducible rfl))
      simp only [Act.put,sT,sZ,sS];refine tk (i:=6) (oi:=⟨_,_,_,_,_,_⟩) (v:=?_) rfl (by rfl) ?_ hH ?_;rotate_left
      ·(intro w hSw; (try dsimp only at hSw);go_simp;try (with_reducible rfl))
      simp only [Act.put,sT,sZ,sS];refine tk (i:=7) (oi:=⟨_,_,_,_,_,_⟩) (v:=?_) rfl (by rfl) ?_ hH ?_;rotate_left
      ·(intro w hSw; (try dsimp only at hSw);go_simp;try (with_reducible rfl))
      simp only [Act.put,sT,sZ,sS];refine Yj (rs:=[8]) (by kernel_rfl) (by simp) ?_;refine Yc (o:=⟨_,_,_,_,_,_⟩) rfl (fun K hK=>?_) Yd
      go_simp
      refine (zMA _ [.bool false,.slice OA on oc,.int .i64 0] ⟨dn,dl,de⟩ zNR _ (HR1.out _ (zAt hb hB (Ya _))) ⟨OA,on,oc,rfl,hsz.below hB⟩).mono ?_;rintro e wq ⟨rfl,hc⟩
      replace hB:=zAA hB hc;clear hc;generalize eqD ⟨dn,dl,de⟩ zNR=r at *;go_wp2_with fail
      refine hK.out _ _ (HK.out _ hB) (fun hH=>?_);clear hK K;refine tk (i:=9) (oi:=⟨_,_,_,_,_,_⟩) (v:=?_) rfl (by rfl) ?_ hH ?_;rotate_left
      ·(intro w hSw; (try dsimp only at hSw);go_simp;try (with_reducible rfl))
      simp only [Act.put,sT,sZ,sS];refine wpAnyH_done (by kernel_rfl) ?_ _;clear hH HK;replace hb:=zAt hb hB (Ya _);clear hB;cases r
      ·have HC:Hid (zPY i k ⟨dn,dl,de⟩=false):=HE.out
       clear HE;go_wp2_with fail
       go_ret;refine ⟨?_,hb⟩;have hrow:zFK i l=false:=by
        unfold zFK;exact zDe _ l 0 k _ HD.out (by rw [Nat.zero_add];exact HC.out)
       have:zPZ m=false:=by
        unfold zPZ;exact zDe _ m 0 i _ HM.out (by rw [Nat.zero_add];exact hrow)
       rw [this];rfl
      ·have HC:Hid (zPY i k ⟨dn,dl,de⟩=true):=HE.out
       clear HE;go_wp2_with fail
       go_roundw
       case rel=>exact ⟨k+1,by omega,by go_num,fun j d' hj hd'=>by
        by_cases hjk:j<k
        ·exact HZ1.out j d' hjk hd'
        ·obtain rfl:j=k:=by omega
         rw [HD.out] at hd';injection hd' with hd'
         rw [<- hd'];exact HC.out,hb⟩
       case measure=>simp [intOf];omega
     ·have HE:Hid (zPY i k ⟨dn,dl,de⟩=eqD ⟨dn,dl,de⟩ zAZ):=by unfold Hid zPY;rw [if_neg hik]
      have hik2:((i:Int) == (k:Int))=false:=by rw [Xh];omega
      clear hik;go_wp2_with fail
      refine (zKF _).mono ?_;rintro e w1 ⟨ZA,zn,zc,rfl,hs0,hf0,hb1⟩
      clear q1;replace hb:=zAt hb hb1 (Ya _);clear hb1 hf0;dsimp only at hs0;have kz:=Blk.new w1 41 #[.bool false,.slice ZA zn zc,.int .i64 0];have hb1:=zAE w1 (.cells #[.bool false,.slice ZA zn zc,.int .i64 0] 41);replace hb:=zAt hb hb1 (Ya _);have hsz:=hs0.below hb1;clear hb1 hs0;go_wp2_with fail
      generalize w1.alloc (.cells #[.bool false,.slice ZA zn zc,.int .i64 0] 41)=W9 at *;generalize w1.heap.size=gz at *;have HK:Hid (∀V,Below W9.heap.size W9 V->(fun V=>V.cell? ⟨b,off+i,none⟩=some (.slice (some ⟨b1,off1,none⟩) n1 c1)/\(V.cell? ⟨b1,off1+k*3,none⟩=some (.bool dn)/\V.cell? ⟨b1,off1+k*3+1,none⟩=some (.slice DA dm dc)/\V.cell? ⟨b1,off1+k*3+2,none⟩=some (.int .i64 de))/\(V.cell? ⟨gz,0,none⟩=some (.bool false)/\V.cell? ⟨gz,1,none⟩=some (.slice ZA zn zc)/\V.cell? ⟨gz,2,none⟩=some (.int .i64 0))/\Below W9.heap.size W9 V) V):=fun V hV=>⟨(hb.trans (hV.mono hb.size) |>.cell (p:=⟨b,off+i,none⟩) hbl).trans QI.out,⟨((hb.trans (hV.mono hb.size)).cell (p:=⟨b1,off1+k*3,none⟩) hbl1).trans C0.out,((hb.trans (hV.mono hb.size)).cell (p:=⟨b1,off1+k*3+1,none⟩) hbl1).trans C1.out,((hb.trans (hV.mono hb.size)).cell (p:=⟨b1,off1+k*3+2,none⟩) hbl1).trans C2.out⟩,(kz.next hV).cells3,hV⟩
      have hB:=zBw W9;refine wp_region_held_drew (S:=(fun V=>V.cell? ⟨b,off+i,none⟩=some (.slice (some ⟨b1,off1,none⟩) n1 c1)/\(V.cell? ⟨b1,off1+k*3,none⟩=some (.bool dn)/\V.cell? ⟨b1,off1+k*3+1,none⟩=some (.slice DA dm dc)/\V.cell? ⟨b1,off1+k*3+2,none⟩=some (.int .i64 de))/\(V.cell? ⟨gz,0,none⟩=some (.bool false)/\V.cell? ⟨gz,1,none⟩=some (.slice ZA zn zc)/\V.cell? ⟨gz,2,none⟩=some (.int .i64 0))/\Below W9.heap.size W9 V)) (by kernel_rfl) (HK.out _ hB) (fun hH=>?_);refine tk (i:=0) (oi:=⟨_,_,_,_,_,_⟩) (v:=?_) rfl (by rfl) ?_ hH ?_;rotate_left
      ·(intro w hSw; (try dsimp only at hSw);go_simp;try (with_reducible rfl))
      simp only [Act.put,sT,sZ,sS];refine tk (i:=1) (oi:=⟨_,_,_,_,_,_⟩) (v:=?_) rfl (by rfl) ?_ hH ?_;rotate_left
      ·(intro w hSw; (try dsimp only at hSw);go_simp;try (with_reducible rfl))
      simp only [Act.put,sT,sZ,sS];refine tk (i:=2) (oi:=⟨_,_,_,_,_,_⟩) (v:=?_) rfl (by rfl) ?_ hH ?_;rotate_left
      ·(intro w hSw; (try dsimp only at hSw);go_simp;try (with_reducible rfl))
      simp only [Act.put,sT,sZ,sS];refine tk (i:=3) (oi:=⟨_,_,_,_,_,_⟩) (v:=?_) rfl (by rfl) ?_ hH ?_;rotate_left
      ·(intro w hSw; (try dsimp only at hSw);go_simp;try (with_reducible rfl))
      simp only [Act.put,sT,sZ,sS];refine tk (i:=4) (oi:=⟨_,_,_,_,_,_⟩) (v:=?_) rfl (by rfl) ?_ hH ?_;rotate_left
      ·(intro w hSw; (try dsimp only at hSw);go_simp;try (with_reducible rfl))
      simp only [Act.put,sT,sZ,sS];refine tk (i:=5) (oi:=⟨_,_,_,_,_,_⟩) (v:=?_) rfl (by rfl) ?_ hH ?_;rotate_left
      ·(intro w hSw; (try dsimp only at hSw);go_simp;try (with_reducible rfl))
      simp only [Act.put,sT,sZ,sS];refine tk (i:=6) (oi:=⟨_,_,_,_,_,_⟩) (v:=?_) rfl (by rfl) ?_ hH ?_;rotate_left
      ·(intro w hSw; (try dsimp only at hSw);go_simp;try (with_reducible rfl))
      simp only [Act.put,sT,sZ,sS];refine tk (i:=7) (oi:=⟨_,_,_,_,_,_⟩) (v:=?_) rfl (by rfl) ?_ hH ?_;rotate_left
      ·(intro w hSw; (try dsimp only at hSw);go_simp;try (with_reducible rfl))
      simp only [Act.put,sT,sZ,sS];refine Yj (rs:=[8]) (by kernel_rfl) (by simp) ?_;refine Yc (o:=⟨_,_,_,_,_,_⟩) rfl (fun K hK=>?_) Yd
      go_simp
      refine (zMA _ [.bool false,.slice ZA zn zc,.int .i64 0] ⟨dn,dl,de⟩ zAZ _ (HR1.out _ (zAt hb hB (Ya _))) ⟨ZA,zn,zc,rfl,hsz.below hB⟩).mono ?_;rintro e wq ⟨rfl,hc⟩
      replace hB:=zAA hB hc;clear hc;generalize eqD ⟨dn,dl,de⟩ zAZ=r at *;go_wp2_with fail
      refine hK.out _ _ (HK.out _ hB) (fun hH=>?_);clear hK K;refine tk (i:=9) (oi:=⟨_,_,_,_,_,_⟩) (v:=?_) rfl (by rfl) ?_ hH ?_;rotate_left
      ·(intro w hSw; (try dsimp only at hSw);go_simp;try (with_reducible rfl))
      simp only [Act.put,sT,sZ,sS];refine wpAnyH_done (by kernel_rfl) ?_ _;clear hH HK;replace hb:=zAt hb hB (Ya _);clear hB;cases r
      ·have HC:Hid (zPY i k ⟨dn,dl,de⟩=false):=HE.out
       clear HE;go_wp2_with fail
       go_ret;refine ⟨?_,hb⟩;have hrow:zFK i l=false:=by
        unfold zFK;exact zDe _ l 0 k _ HD.out (by rw [Nat.zero_add];exact HC.out)
       have:zPZ m=false:=by
        unfold zPZ;exact zDe _ m 0 i _ HM.out (by rw [Nat.zero_add];exact hrow)
       rw [this];rfl
      ·have HC:Hid (zPY i k ⟨dn,dl,de⟩=true):=HE.out
       clear HE;go_wp2_with fail
       go_roundw
       case rel=>exact ⟨k+1,by omega,by go_num,fun j d' hj hd'=>by
        by_cases hjk:j<k
        ·exact HZ1.out j d' hjk hd'
        ·obtain rfl:j=k:=by omega
         rw [HD.out] at hd';injection hd' with hd'
         rw [<- hd'];exact HC.out,hb⟩
       case measure=>simp [intOf];omega
    ·have HRow:Hid (zFK i l=true):=by
      unfold Hid zFK;refine zF9 _ l 0 (fun j d hd=>?_);rw [Nat.zero_add];refine HZ1.out j d ?_ hd;have:=(Yb.1 hd).1;have:=HL1.out;omega
     go_wp2_with fail
     go_roundw
     case rel=>exact ⟨i+1,by omega,by go_num,fun j l' hj hl'=>by
      by_cases hji:j<i
      ·exact HZ.out j l' hji hl'
      ·obtain rfl:j=i:=by omega
       rw [HM.out] at hl';injection hl' with hl'
       rw [<- hl'];exact HRow.out,hb⟩
     case measure=>simp [intOf];omega
  ·go_wp2_with fail
   go_ret;refine ⟨?_,hb⟩;have:zPZ m=true:=by
    unfold zPZ;refine zF9 _ m 0 (fun j l hl=>?_);rw [Nat.zero_add];refine HZ.out j l ?_ hl;have:=(Yb.1 hl).1;have:=HL.out;omega
   rw [this];rfl
theorem zSg {x:Lk}{N vn:Nat}(h1:1<=N) (h4:N<=4) (hv:x.v.length=vn):lkV N x=(vld x.h && decide (0<zBP x.h) && zEO x.tube && decide (x.tube.length=N) && (frV x.e && decide (x.e.c.length=N)) && decide (vn=N) && zOc x.v && decide ((x.v.headD []).length=N)):=by
 unfold lkV sqV;rw [hv];have e:x.v.any (fun l=>decide (l.length≠N) || l.any (fun d=>!vld d))=x.v.any (zCk N):=rfl;rw [e];by_cases hn:vn=N
 ·have:=zRc (a:=x.v) h1 (by omega) (by omega)
  rw [<- this,Yf hn];simp only [Bool.and_true,Bool.true_and,Bool.and_assoc]
 ·rw [Ye hn]
  simp
theorem zN6 {f:Fr}(h:frV f=true):∀l∈f.a,∀d∈l,vld d=true:=by
 unfold frV at h;simp only [Yi,Bool.not_eq_true',List.any_eq_false,Bool.or_eq_true,not_or] at h;intro l hl d hd;have:=(h.1.2 l hl).2;rw [Bool.not_eq_true,List.any_eq_false] at this;have h2:=this d hd
 simpa using h2
theorem zCD (vs:List Value) (x:Ct) (w:World) (h:RC w vs x) (hx:BdC x):Calls Tryz.prog 54 #[.agg vs.toArray] w (zBW (ctV x) w):=by
 obtain ⟨A,n,c,B,m,d,C,p,q,L,ln,lc,rfl,h1,h2,h3,h4⟩:=h;obtain ⟨pr,od,st,ls⟩:=x;dsimp only at h1 h2 h3 h4 ⊢;have HV:Hid (ctV ⟨pr,od,st,ls⟩=(decide (8<=pr) && decide (pr<=256) && decide (1<=od) && decide (od<=15) && decide (1<=n) && decide (n<=4) && frV st && zPZ st.a && decide (ln<=1000) && !ls.any (fun l=>!lkV n l))):=by
  unfold Hid ctV;dsimp only;rw [h1.len,h4.len];cases hf:frV st
  ·simp
  ·rw [<- zUD (zN6 hf) (zFI h2)]
   generalize ls.any (fun l=>!lkV n l)=x1;generalize idM st.a=x2;generalize decide (ln<=1000)=x3;generalize decide (1<=n)=x4;generalize decide (n<=4)=x5;cases x1 <;> cases x2 <;> cases x3 <;> cases x4 <;> cases x5 <;> simp
 have r2:RF w [.slice A n c,.slice B m d,.slice C p q] st:=⟨A,n,c,B,m,d,C,p,q,rfl,h1,h2,h3⟩;have H1:=Zh (fun W (hb:Below w.heap.size w W)=>zIC n _ st W (zBs w W _ _ r2 hb) hx.s);have H2:=Zh (fun W (hb:Below w.heap.size w W)=>zOx B m d st.a W (h2.next zAh hb));rw [h1.len,Yf (rfl:n=n)] at H1;have m1:=h1.cap;have m2:=h1.max;have m3:=h4.cap;have m4:=h4.max;have HS:=Zh h4;have HL:=Zh h4.len;have HX:=Zh hx.l;have hb0:=zAE w (.cells #[.int .i64 pr,.int .i64 od,.slice A n c,.slice B m d,.slice C p q,.slice L ln lc] 29);have k0:=Blk.new w 29 #[.int .i64 pr,.int .i64 od,.slice A n c,.slice B m d,.slice C p q,.slice L ln lc];clear h1 h2 h3 h4 r2 hx;generalize zPZ st.a=ri at *;generalize frV st=rf at *;by_cases e1:8<=pr
 rotate_left
 ·rw [Ye e1] at HV
  clear k0 H1 H2 HS HX;go_enter Tryz.func54,Tryz.ntmps54
  go_wp2_with fail
  go_ret;exact ⟨by rw [HV.out];first | rfl | simp,hb0⟩
 rw [Yf e1] at HV;by_cases e2:pr<=256
 rotate_left
 ·rw [Ye e2] at HV
  clear k0 H1 H2 HS HX;go_enter Tryz.func54,Tryz.ntmps54
  go_wp2_with fail
  go_ret;exact ⟨by rw [HV.out];first | rfl | simp,hb0⟩
 rw [Yf e2] at HV;by_cases e3:1<=od
 rotate_left
 ·rw [Ye e3] at HV
  clear k0 H1 H2 HS HX;go_enter Tryz.func54,Tryz.ntmps54
  go_wp2_with fail
  go_ret;exact ⟨by rw [HV.out];first | rfl | simp,hb0⟩
 rw [Yf e3] at HV;by_cases e4:od<=15
 rotate_left
 ·rw [Ye e4] at HV
  clear k0 H1 H2 HS HX;go_enter Tryz.func54,Tryz.ntmps54
  go_wp2_with fail
  go_ret;exact ⟨by rw [HV.out];first | rfl | simp,hb0⟩
 rw [Yf e4] at HV;by_cases e6:1<=n
 rotate_left
 ·rw [Ye e6] at HV
  clear k0 H1 H2 HS HX;go_enter Tryz.func54,Tryz.ntmps54
  go_wp2_with fail
  go_ret;exact ⟨by rw [HV.out];first | rfl | simp,hb0⟩
 rw [Yf e6] at HV;by_cases e7:n<=4
 rotate_left
 ·rw [Ye e7] at HV
  clear k0 H1 H2 HS HX;go_enter Tryz.func54,Tryz.ntmps54
  go_wp2_with fail
  go_ret;exact ⟨by rw [HV.out];first | rfl | simp,hb0⟩
 rw [Yf e7] at HV;go_enter Tryz.func54,Tryz.ntmps54
 go_wp2_with fail
 generalize w.alloc (.cells #[.int .i64 pr,.int .i64 od,.slice A n c,.slice B m d,.slice C p q,.slice L ln lc] 29)=W0 at *;refine (H1.out _ hb0).mono ?_;rintro e w1 ⟨rfl,hb1x⟩
 replace hb0:=zAA hb0 hb1x;replace k0:=k0.next hb1x;clear hb1x;cases hv1:rf
 ·rw [hv1] at HV
  clear hv1;go_wp2_with fail
  go_ret;exact ⟨by rw [HV.out];first | rfl | simp,hb0⟩
 rw [hv1] at HV;clear hv1;obtain ⟨k0q0,k0q1,k0q2,k0q3,k0q4,k0q5⟩:=k0.cells6;go_wp2_with fail
 refine (H2.out _ hb0).mono ?_;rintro e w2 ⟨rfl,hb2x⟩
 clear k0q0 k0q1 k0q2 k0q3 k0q4 k0q5;replace hb0:=zAA hb0 hb2x;replace k0:=k0.next hb2x;clear hb2x;cases hv1:ri
 ·rw [hv1] at HV
  clear hv1;go_wp2_with fail
  go_ret;exact ⟨by rw [HV.out];first | rfl | simp,hb0⟩
 rw [hv1] at HV;clear hv1;by_cases e5:ln<=1000
 rotate_left
 ·rw [Ye e5] at HV
  obtain ⟨k0q0,k0q1,k0q2,k0q3,k0q4,k0q5⟩:=k0.cells6;go_wp2_with fail
  go_ret;exact ⟨by rw [HV.out];first | rfl | simp,hb0⟩
 rw [Yf e5] at HV;have HV2:Hid (ctV ⟨pr,od,st,ls⟩ = !ls.any (fun l=>!lkV n l)):=by unfold Hid;rw [HV.out];simp
 clear HV;obtain ⟨k0q0,k0q1,k0q2,k0q3,k0q4,k0q5⟩:=k0.cells6;go_wp2_with fail
 clear k0q0 k0q1 k0q2 k0q3 k0q4 k0q5
 go_loopw [4] (fun v wr=>∃i:Nat,i<=ln/\v=.int .i64 i/\Hid (∀ (j:Nat) (y:Lk),j<i->ls[j]? = some y->(!lkV n y)=false)/\Below w.heap.size w wr/\Blk wr w.heap.size 29 #[.int .i64 pr,.int .i64 od,.slice A n c,.slice B m d,.slice C p q,.slice L ln lc]) (fun v _=>ln - (intOf v).toNat)
 case atStart=>exact ⟨0,Nat.zero_le _,rfl,fun j l hj=>absurd hj (by omega),hb0,k0⟩
 case round=>
  clear hb0 k0;obtain ⟨i,hi,rfl,HZ,hbr,k0⟩:=hrel;obtain ⟨k0q0,k0q1,k0q2,k0q3,k0q4,k0q5⟩:=k0.cells6;by_cases hlt:i<ln
  ·obtain ⟨b,off,y,us,rfl,hbl,hyi,hk,hR,hcc⟩:=HS.out.get hlt
   have hxl:=HX.out y (Yk hyi);have HYI:=Zh hyi;obtain ⟨⟨dn,dl,de⟩,tube,fe,v⟩:=y;obtain ⟨H,hn,hc,T,tn,tc,A1,n1,c1,B1,m1',d1,C1,p1,cq,V,vn,vc,rfl,g1,g2,g3,g4,g5,g6⟩:=hR;dsimp only at g1 g2 g3 g4 g5 g6 hcc;have q0:=(hbr.cell (p:=⟨b,off+i*8,none⟩) hbl).trans (hcc 0 _ rfl);have q1:=(hbr.cell (p:=⟨b,off+i*8+1,none⟩) hbl).trans (hcc 1 _ rfl);have q2:=(hbr.cell (p:=⟨b,off+i*8+2,none⟩) hbl).trans (hcc 2 _ rfl);have q3:=(hbr.cell (p:=⟨b,off+i*8+3,none⟩) hbl).trans (hcc 3 _ rfl);have q4:=(hbr.cell (p:=⟨b,off+i*8+4,none⟩) hbl).trans (hcc 4 _ rfl);have q5:=(hbr.cell (p:=⟨b,off+i*8+5,none⟩) hbl).trans (hcc 5 _ rfl);have q6:=(hbr.cell (p:=⟨b,off+i*8+6,none⟩) hbl).trans (hcc 6 _ rfl);have q7:=(hbr.cell (p:=⟨b,off+i*8+7,none⟩) hbl).trans (hcc 7 _ rfl);obtain ⟨N0,hN0⟩:∃N0,(v.headD []).length=N0:=⟨_,rfl⟩;have HV:=Zh (zSg (x:=⟨⟨dn,dl,de⟩,tube,fe,v⟩) e6 e7 g6.len);dsimp only at HV;rw [g2.len,g3.len,hN0] at HV;have r1:RD w [.bool dn,.slice H hn hc,.int .i64 de] ⟨dn,dl,de⟩:=⟨H,hn,hc,rfl,g1⟩;have r2:RF w [.slice A1 n1 c1,.slice B1 m1' d1,.slice C1 p1 cq] fe:=⟨A1,n1,c1,B1,m1',d1,C1,p1,cq,rfl,g3,g4,g5⟩;have F1:=Zh (fun W (hb:Below w.heap.size w W)=>zDO _ _ W (zAQ w W _ _ r1 hb) hxl.h);have F2:=Zh (fun W (hb:Below w.heap.size w W) (hv:vld ⟨dn,dl,de⟩=true)=>zS9 _ _ W (zAQ w W _ _ r1 hb) hv);have F3:=Zh (fun W (hb:Below w.heap.size w W)=>zIy T tn tc tube W (g2.next zAX hb) hxl.t);have F4:=Zh (fun W (hb:Below w.heap.size w W)=>zIC n _ fe W (zBs w W _ _ r2 hb) hxl.e);have F5:=Zh (fun W (hb:Below w.heap.size w W)=>zF2 V vn vc v W (g6.next zAh hb) hxl.v);rw [g3.len] at F4;have HR0:Hid (0<vn->∃ (b off:Nat) (A0:Option Addr) (c0:Nat),V=some ⟨b,off,none⟩/\b<w.heap.size/\w.cell? ⟨b,off,none⟩=some (.slice A0 N0 c0)/\N0<=c0/\c0<=9223372036854775807):=fun hm=>by
    obtain ⟨b,off,l0,vs,e,hbl,hx0,hk0,hR0,hc0⟩:=g6.get (j:=0) hm;obtain ⟨A0,n0,c0,rfl,hs0⟩:=hR0;have e0:n0=N0:=by
     rw [<- hN0,<- hs0.len];cases ha:v with
     | nil=>rw [ha] at hx0;simp at hx0
     | cons a t=>rw [ha] at hx0;simp at hx0;rw [hx0];rfl
    subst e0;have q0:=hc0 0 _ rfl;rw [Nat.zero_mul,Nat.add_zero] at q0;exact ⟨b,off,A0,c0,e,hbl,q0,hs0.cap,hs0.max⟩
   have u1:=g2.cap;have u2:=g2.max;have u3:=g6.cap;have u4:=g6.max;have kx:=Blk.new wr 86 #[.bool dn,.slice H hn hc,.int .i64 de,.slice T tn tc,.slice A1 n1 c1,.slice B1 m1' d1,.slice C1 p1 cq,.slice V vn vc];have hb1:=zAE wr (.cells #[.bool dn,.slice H hn hc,.int .i64 de,.slice T tn tc,.slice A1 n1 c1,.slice B1 m1' d1,.slice C1 p1 cq,.slice V vn vc] 86);replace hbr:=zAt hbr hb1 (Ya _);have HK0:=Zh (k0.next hb1);clear hyi hk hcc hxl g1 g2 g3 g4 g5 g6 hN0 hb1 r1 r2 k0;generalize frV fe=rfe at *;generalize zEO tube=rbx at *;generalize zOc v=rnv at *;go_wp2_with fail
   clear k0q0 k0q1 k0q2 k0q3 k0q4 k0q5 q0 q1 q2 q3 q4 q5 q6 q7;generalize wr.alloc (.cells #[.bool dn,.slice H hn hc,.int .i64 de,.slice T tn tc,.slice A1 n1 c1,.slice B1 m1' d1,.slice C1 p1 cq,.slice V vn vc] 86)=W1 at *;generalize wr.heap.size=gx at *;refine (F1.out _ hbr).mono ?_;rintro e w1 ⟨rfl,hb1x⟩
   replace hbr:=zAt hbr hb1x (Ya _);replace kx:=kx.next hb1x;replace HK0:=Zh (HK0.out.next hb1x);clear hb1x;cases hv1:vld ⟨dn,dl,de⟩
   ·rw [hv1] at HV
    clear hv1;have HB:Hid (ls.any (fun l=>!lkV n l)=true):=zBC _ ls i _ HYI.out (by rw [HV.out];simp);go_wp2_with fail
    go_ret;exact ⟨by rw [HV2.out,HB.out];rfl,hbr⟩
   rw [hv1] at HV;have HVD:=Zh hv1;clear hv1;obtain ⟨kxq0,kxq1,kxq2,kxq3,kxq4,kxq5,kxq6,kxq7⟩:=kx.cells8;go_wp2_with fail
   refine (F2.out _ hbr HVD.out).mono ?_;rintro e w2 ⟨rfl,hb2x⟩
   clear kxq0 kxq1 kxq2 kxq3 kxq4 kxq5 kxq6 kxq7;replace hbr:=zAt hbr hb2x (Ya _);replace kx:=kx.next hb2x;replace HK0:=Zh (HK0.out.next hb2x);clear hb2x;generalize zBP ⟨dn,dl,de⟩=r at *;by_cases hr:0<r
   rotate_left
   ·rw [Ye hr] at HV
    have hr2:decide (r<=0)=true:=Yf (by omega);have HB:Hid (ls.any (fun l=>!lkV n l)=true):=zBC _ ls i _ HYI.out (by rw [HV.out];simp);obtain ⟨kxq0,kxq1,kxq2,kxq3,kxq4,kxq5,kxq6,kxq7⟩:=kx.cells8;go_wp2_with fail
    go_ret;exact ⟨by rw [HV2.out,HB.out];rfl,hbr⟩
   rw [Yf hr] at HV;have hr2:decide (r<=0)=false:=Ye (by omega);obtain ⟨kxq0,kxq1,kxq2,kxq3,kxq4,kxq5,kxq6,kxq7⟩:=kx.cells8;go_wp2_with fail
   refine (F3.out _ hbr).mono ?_;rintro e w3 ⟨rfl,hb3x⟩
   clear kxq0 kxq1 kxq2 kxq3 kxq4 kxq5 kxq6 kxq7;replace hbr:=zAt hbr hb3x (Ya _);replace kx:=kx.next hb3x;replace HK0:=Zh (HK0.out.next hb3x);clear hb3x;cases hv1:rbx
   ·rw [hv1] at HV
    clear hv1;have HB:Hid (ls.any (fun l=>!lkV n l)=true):=zBC _ ls i _ HYI.out (by rw [HV.out];simp);go_wp2_with fail
    go_ret;exact ⟨by rw [HV2.out,HB.out];rfl,hbr⟩
   rw [hv1] at HV;clear hv1;by_cases ht:tn=n
   rotate_left
   ·rw [Ye ht] at HV
    have ht2:((tn:Int) != (n:Int))=true:=by rw [bne_iff_ne];omega
    have HB:Hid (ls.any (fun l=>!lkV n l)=true):=zBC _ ls i _ HYI.out (by rw [HV.out];simp);obtain ⟨kxq0,kxq1,kxq2,kxq3,kxq4,kxq5,kxq6,kxq7⟩:=kx.cells8;go_wp2_with fail
    go_ret;exact ⟨by rw [HV2.out,HB.out];rfl,hbr⟩
   rw [Yf ht] at HV;have ht2:((tn:Int) != (n:Int))=false:=by rw [ht];simp
   clear ht;obtain ⟨kxq0,kxq1,kxq2,kxq3,kxq4,kxq5,kxq6,kxq7⟩:=kx.cells8;go_wp2_with fail
   refine (F4.out _ hbr).mono ?_;rintro e w4 ⟨rfl,hb4x⟩
   clear kxq0 kxq1 kxq2 kxq3 kxq4 kxq5 kxq6 kxq7;replace hbr:=zAt hbr hb4x (Ya _);replace kx:=kx.next hb4x;replace HK0:=Zh (HK0.out.next hb4x);clear hb4x;obtain ⟨rq,hrq⟩:∃rq,(rfe && decide (n1=n))=rq:=⟨_,rfl⟩;rw [hrq] at HV ⊢;clear hrq;cases hv1:rq
   ·rw [hv1] at HV
    clear hv1;have HB:Hid (ls.any (fun l=>!lkV n l)=true):=zBC _ ls i _ HYI.out (by rw [HV.out];simp);go_wp2_with fail
    go_ret;exact ⟨by rw [HV2.out,HB.out];rfl,hbr⟩
   rw [hv1] at HV;clear hv1;by_cases hw:vn=n
   rotate_left
   ·rw [Ye hw] at HV
    have hw2:((vn:Int) != (n:Int))=true:=by rw [bne_iff_ne];omega
    have HB:Hid (ls.any (fun l=>!lkV n l)=true):=zBC _ ls i _ HYI.out (by rw [HV.out];simp);obtain ⟨kxq0,kxq1,kxq2,kxq3,kxq4,kxq5,kxq6,kxq7⟩:=kx.cells8;go_wp2_with fail
    go_ret;exact ⟨by rw [HV2.out,HB.out];rfl,hbr⟩
   rw [Yf hw] at HV;have hw2:((vn:Int) != (n:Int))=false:=by rw [hw];simp
   have hw3:0<vn:=by omega
   clear hw;obtain ⟨b0,off0,A0,c0,rfl,hbl0,q00,z1,z2⟩:=HR0.out hw3;have Q00:=Zh q00;clear q00 HR0;obtain ⟨kxq0,kxq1,kxq2,kxq3,kxq4,kxq5,kxq6,kxq7⟩:=kx.cells8;go_wp2_with fail
   refine (F5.out _ hbr).mono ?_;rintro e w5 ⟨rfl,hb5x⟩
   clear kxq0 kxq1 kxq2 kxq3 kxq4 kxq5 kxq6 kxq7;replace hbr:=zAt hbr hb5x (Ya _);replace kx:=kx.next hb5x;replace HK0:=Zh (HK0.out.next hb5x);clear hb5x;cases hv1:rnv
   ·rw [hv1] at HV
    clear hv1;have HB:Hid (ls.any (fun l=>!lkV n l)=true):=zBC _ ls i _ HYI.out (by rw [HV.out];simp);go_wp2_with fail
    go_ret;exact ⟨by rw [HV2.out,HB.out];rfl,hbr⟩
   rw [hv1] at HV;clear hv1;have z0:=(hbr.cell (p:=⟨b0,off0,none⟩) hbl0).trans Q00.out;by_cases hy:N0=n
   rotate_left
   ·rw [Ye hy] at HV
    have hy2:((N0:Int) != (n:Int))=true:=by rw [bne_iff_ne];omega
    have HB:Hid (ls.any (fun l=>!lkV n l)=true):=zBC _ ls i _ HYI.out (by rw [HV.out];simp);obtain ⟨kxq0,kxq1,kxq2,kxq3,kxq4,kxq5,kxq6,kxq7⟩:=kx.cells8;go_wp2_with fail
    go_ret;exact ⟨by rw [HV2.out,HB.out];rfl,hbr⟩
   rw [Yf hy] at HV;have hy2:((N0:Int) != (n:Int))=false:=by rw [hy];simp
   clear hy;have HOK:Hid (lkV n ⟨⟨dn,dl,de⟩,tube,fe,v⟩=true):=by unfold Hid;rw [HV.out];simp
   clear HV;obtain ⟨kxq0,kxq1,kxq2,kxq3,kxq4,kxq5,kxq6,kxq7⟩:=kx.cells8;go_wp2_with fail
   go_roundw
   case rel=>exact ⟨i+1,by omega,by go_num,fun j y' hj hy'=>by
    by_cases hjk:j<i
    ·exact HZ.out j y' hjk hy'
    ·obtain rfl:j=i:=by omega
     rw [HYI.out] at hy';injection hy' with hy'
     rw [<- hy',HOK.out];rfl,hbr,HK0.out⟩
   case measure=>simp [intOf];omega
  ·go_wp2_with fail
   go_ret;refine ⟨?_,hbr⟩;rw [HV2.out,zEN _ ls (fun j y hy=>HZ.out j y (by
    have:=(Yb.1 hy).1;have:=HL.out;omega) hy)]
   rfl
end Go.Proofs.YtchkfjgcbbbffaaGreatDoor
end
