/- Bundle 12: what the law's walk stands on: S36, S37, S38, S39. -/
import Derived.Deep.WholeRow
import Derived.Deep.DeepCutAuto
import Derived.Test.YtchkfjgcbbbffaaGreatDoorW11
set_option maxRecDepth 100000
set_option maxHeartbeats 20000000
set_option linter.all false
noncomputable section
namespace Go.Proofs.YtchkfjgcbbbffaaGreatDoor
open Go.RowKit Pl Go.Shelf
def zpf (x:Dy) (A:Option Addr) (n c:Nat) (y:Dy) (B:Option Addr) (m q:Nat) (z:Dy) (w:World) (e:Ending) (w':World):Prop:=∃A' n' c',e=.returned (.agg #[.bool z.neg,.slice A' n' c',.int .i64 z.e])/\((z=x/\A' = A/\n' = n/\c' = c)\/(z=y/\A' = B/\n' = m/\c' = q))/\Below w.heap.size w w'
theorem zoP {fn:Func}{k:Nat}(hr:fn.results=#[.cell k 41]) {tmps:Array Value}{w W:World}{g:Nat}{t:TypeId}{a0:Bool}{B0:Option Addr}{m0 q0:Nat}{a2:Int}{x y z:Dy}{A B A':Option Addr}{n c m q n' c':Nat}
  (hB:Blk W g t #[.bool a0,.slice B0 m0 q0,.int .i64 a2]) (hp:(z=x/\A' = A/\n' = n/\c' = c)\/(z=y/\A' = B/\n' = m/\c' = q)) (hb:Below w.heap.size w W) (hg:w.heap.size<=g) (hk:tmps.getD k undef=.pointer (some ⟨g,0,none⟩)) :
  bodyPost Tryz.prog fn (zpf x A n c y B m q z w) .ret { tmps:=tmps,defers:=[] } (((W.setCell ⟨g,0,none⟩ (.bool z.neg)).setCell ⟨g,1,none⟩ (.slice A' n' c')).setCell ⟨g,2,none⟩ (.int .i64 z.e)):=
 Yn (zHV hr hk (hB.set3 _ _ _)) rfl ⟨A',n',c',rfl,hp,zAG hb hg _ _ _⟩
theorem zoF {Q:Option Addr->Nat->Nat->List Nat->Prop}{x y z:Dy}{A B A':Option Addr}{n c m q n' c':Nat}(hp:(z=x/\A' = A/\n' = n/\c' = c)\/(z=y/\A' = B/\n' = m/\c' = q)) (h1:Q A n c x.l) (h2:Q B m q y.l):Q A' n' c' z.l:=by
 rcases hp with ⟨rfl,rfl,rfl,rfl⟩ | ⟨rfl,rfl,rfl,rfl⟩
 ·exact h1
 ·exact h2
def zpv (T:(Option Addr->Nat->Nat->List Nat->Prop)->Prop) (o:Option Iv) (w:World) (e:Ending) (w':World):Prop:=∃A n c B m d,e=.returned (.tuple #[.agg #[.bool (o.getD ⟨zAZ,zAZ,false⟩).lo.neg,.slice A n c,.int .i64 (o.getD ⟨zAZ,zAZ,false⟩).lo.e,.bool (o.getD ⟨zAZ,zAZ,false⟩).hi.neg,.slice B m d,.int .i64 (o.getD ⟨zAZ,zAZ,false⟩).hi.e,.bool (o.getD ⟨zAZ,zAZ,false⟩).all],.bool o.isSome])/\SL w' A n c (o.getD ⟨zAZ,zAZ,false⟩).lo.l/\SL w' B m d (o.getD ⟨zAZ,zAZ,false⟩).hi.l/\(∀Q,T Q->Q A n c (o.getD ⟨zAZ,zAZ,false⟩).lo.l/\Q B m d (o.getD ⟨zAZ,zAZ,false⟩).hi.l)/\Below w.heap.size w w'
theorem znf {fn:Func}{k j:Nat}(hr:fn.results=#[.cell k 43,.tmp j]) {tmps:Array Value}{w W:World}{g:Nat}{t:TypeId}{b0 b1 b2 z:Bool}{B0 B1:Option Addr}{m0 q0 m1 q1:Nat}{i0 i1:Int}{T:(Option Addr->Nat->Nat->List Nat->Prop)->Prop}{o:Option Iv}{x:Iv}{A B:Option Addr}{n c m d:Nat}
  (ho:o.getD ⟨zAZ,zAZ,false⟩=x/\o.isSome=z) (hB:Blk W g t #[.bool b0,.slice B0 m0 q0,.int .i64 i0,.bool b1,.slice B1 m1 q1,.int .i64 i1,.bool b2]) (h1:SL W A n c x.lo.l) (h2:SL W B m d x.hi.l) (hq:∀Q,T Q->Q A n c x.lo.l/\Q B m d x.hi.l) (hb:Below w.heap.size w W) (hg:w.heap.size<=g) (hk:tmps.getD k undef=.pointer (some ⟨g,0,none⟩)) (hj:tmps.getD j undef=.bool z) :
  bodyPost Tryz.prog fn (zpv T o w) .ret { tmps:=tmps,defers:=[] } (((((((W.setCell ⟨g,0,none⟩ (.bool x.lo.neg)).setCell ⟨g,1,none⟩ (.slice A n c)).setCell ⟨g,2,none⟩ (.int .i64 x.lo.e)).setCell ⟨g,3,none⟩ (.bool x.hi.neg)).setCell ⟨g,4,none⟩ (.slice B m d)).setCell ⟨g,5,none⟩ (.int .i64 x.hi.e)).setCell ⟨g,6,none⟩ (.bool x.all)):=by
 obtain ⟨rfl,rfl⟩:=ho;obtain ⟨c0,c1,c2,c3,c4,c5,c6⟩:=(hB.set7 (.bool (o.getD ⟨zAZ,zAZ,false⟩).lo.neg) (.slice A n c) (.int .i64 (o.getD ⟨zAZ,zAZ,false⟩).lo.e) (.bool (o.getD ⟨zAZ,zAZ,false⟩).hi.neg) (.slice B m d) (.int .i64 (o.getD ⟨zAZ,zAZ,false⟩).hi.e) (.bool (o.getD ⟨zAZ,zAZ,false⟩).all)).cells7;have hk':tmps[k]?.getD undef=.pointer (some ⟨g,0,none⟩):=by simpa using hk
 refine Yn (v:=.tuple #[.agg #[.bool (o.getD ⟨zAZ,zAZ,false⟩).lo.neg,.slice A n c,.int .i64 (o.getD ⟨zAZ,zAZ,false⟩).lo.e,.bool (o.getD ⟨zAZ,zAZ,false⟩).hi.neg,.slice B m d,.int .i64 (o.getD ⟨zAZ,zAZ,false⟩).hi.e,.bool (o.getD ⟨zAZ,zAZ,false⟩).all],tmps.getD j undef]) (by simp [results,hr,hk',go_sem,c0,c1,c2,c3,c4,c5,c6]) rfl ?_;rw [hj];exact ⟨A,n,c,B,m,d,rfl,h1.past7 (h1.away hB (znA _ _ _ _ _ _ _ _ _ _ _)) _ _ _ _ _ _ _,h2.past7 (h2.away hB (znA _ _ _ _ _ _ _ _ _ _ _)) _ _ _ _ _ _ _,hq,zC0 hb hg _ _ _ _ _ _ _⟩
theorem zo3 (x y:Dy) (A B:Option Addr) (n c m q:Nat) (w:World) (h1:SL w A n c x.l) (h2:SL w B m q y.l) (hx:Bd x) (hy:Bd y) :
  Calls Tryz.prog 166 #[.agg #[.bool x.neg,.slice A n c,.int .i64 x.e],.agg #[.bool y.neg,.slice B m q,.int .i64 y.e]] w (zpf x A n c y B m q (mrD x y) w):=by
 obtain ⟨W0,eW,hb0,ka,kb,kr⟩:=al3 w #[.bool x.neg,.slice A n c,.int .i64 x.e] 41 #[.bool y.neg,.slice B m q,.int .i64 y.e] 41 #[.bool false,.slice none 0 0,.int .i64 0] 41;have hl1:n<=1000:=by have:=h1.len;unfold Bd at hx;omega
 have hl2:m<=1000:=by have:=h2.len;unfold Bd at hy;omega
 have HC:=Zh (fun W (hb:Below w.heap.size w W)=>zLb x.neg y.neg A B n c m q x.l y.l x.e y.e W (h1.below hb) (h2.below hb) (by omega) (by omega));have HV:Hid (mrD x y=if 0<=zCH x y then x else y):=rfl;have HS1:=Zh h1;have HS2:=Zh h2
 change Hid (∀W,Below w.heap.size w W->Calls _ _ _ W (fun e w'=>e=.returned (.int .i64 (zCH x y))/\Below W.heap.size W w')) at HC
 generalize mrD x y=PP at *;generalize zCH x y=r at *;obtain ⟨p0,p1,p2⟩:=ka.cells3;obtain ⟨q0,q1,q2⟩:=kb.cells3;clear h1 h2 hx hy;go_enter Tryz.func166,Tryz.ntmps166
 go_wp2_with fail
 clear eW;have HB0:=Zh hb0;have HKA:=Zh ka;have HKB:=Zh kb;have HKR:=Zh kr;clear ka kb kr hb0 p0 p1 p2 q0 q1 q2;refine (HC.out _ HB0.out).mono ?_;rintro e w1 ⟨rfl,hb1⟩
 by_cases hc:0<=r
 ·have HV2:Hid (PP=x):=by unfold Hid;rw [HV.out,if_pos hc]
  have kr:=HKR.out.next (hb1);obtain ⟨r0,r1,r2⟩:=kr.cells3;have f0:=kr.frozen 0;have f1:=kr.frozen 1;have f2:=kr.frozen 2;have HKR2:=Zh kr;clear kr;have hb2:=zAA HB0.out hb1;obtain ⟨p0,p1,p2⟩:=(HKA.out.next hb1).cells3;obtain ⟨q0,q1,q2⟩:=(HKB.out.next hb1).cells3;go_wp2_with fail
  rw [HV2.out];exact zoP Tryz.results166 HKR2.out (Or.inl ⟨rfl,rfl,rfl,rfl⟩) hb2 (by omega) rfl
 ·have HV2:Hid (PP=y):=by unfold Hid;rw [HV.out,if_neg hc]
  have kr:=HKR.out.next (hb1);obtain ⟨r0,r1,r2⟩:=kr.cells3;have f0:=kr.frozen 0;have f1:=kr.frozen 1;have f2:=kr.frozen 2;have HKR2:=Zh kr;clear kr;have hb2:=zAA HB0.out hb1;obtain ⟨p0,p1,p2⟩:=(HKA.out.next hb1).cells3;obtain ⟨q0,q1,q2⟩:=(HKB.out.next hb1).cells3;go_wp2_with fail
  rw [HV2.out];exact zoP Tryz.results166 HKR2.out (Or.inr ⟨rfl,rfl,rfl,rfl⟩) hb2 (by omega) rfl
theorem zo0 (x y:Dy) (A B:Option Addr) (n c m q:Nat) (w:World) (h1:SL w A n c x.l) (h2:SL w B m q y.l) (hx:Bd x) (hy:Bd y) :
  Calls Tryz.prog 167 #[.agg #[.bool x.neg,.slice A n c,.int .i64 x.e],.agg #[.bool y.neg,.slice B m q,.int .i64 y.e]] w (zpf x A n c y B m q (lsD x y) w):=by
 obtain ⟨W0,eW,hb0,ka,kb,kr⟩:=al3 w #[.bool x.neg,.slice A n c,.int .i64 x.e] 41 #[.bool y.neg,.slice B m q,.int .i64 y.e] 41 #[.bool false,.slice none 0 0,.int .i64 0] 41;have hl1:n<=1000:=by have:=h1.len;unfold Bd at hx;omega
 have hl2:m<=1000:=by have:=h2.len;unfold Bd at hy;omega
 have HC:=Zh (fun W (hb:Below w.heap.size w W)=>zLb x.neg y.neg A B n c m q x.l y.l x.e y.e W (h1.below hb) (h2.below hb) (by omega) (by omega));have HV:Hid (lsD x y=if zCH x y<=0 then x else y):=rfl;have HS1:=Zh h1;have HS2:=Zh h2
 change Hid (∀W,Below w.heap.size w W->Calls _ _ _ W (fun e w'=>e=.returned (.int .i64 (zCH x y))/\Below W.heap.size W w')) at HC
 generalize lsD x y=PP at *;generalize zCH x y=r at *;obtain ⟨p0,p1,p2⟩:=ka.cells3;obtain ⟨q0,q1,q2⟩:=kb.cells3;clear h1 h2 hx hy;go_enter Tryz.func167,Tryz.ntmps167
 go_wp2_with fail
 clear eW;have HB0:=Zh hb0;have HKA:=Zh ka;have HKB:=Zh kb;have HKR:=Zh kr;clear ka kb kr hb0 p0 p1 p2 q0 q1 q2;refine (HC.out _ HB0.out).mono ?_;rintro e w1 ⟨rfl,hb1⟩
 by_cases hc:r<=0
 ·have HV2:Hid (PP=x):=by unfold Hid;rw [HV.out,if_pos hc]
  have kr:=HKR.out.next (hb1);obtain ⟨r0,r1,r2⟩:=kr.cells3;have f0:=kr.frozen 0;have f1:=kr.frozen 1;have f2:=kr.frozen 2;have HKR2:=Zh kr;clear kr;have hb2:=zAA HB0.out hb1;obtain ⟨p0,p1,p2⟩:=(HKA.out.next hb1).cells3;obtain ⟨q0,q1,q2⟩:=(HKB.out.next hb1).cells3;go_wp2_with fail
  rw [HV2.out];exact zoP Tryz.results167 HKR2.out (Or.inl ⟨rfl,rfl,rfl,rfl⟩) hb2 (by omega) rfl
 ·have HV2:Hid (PP=y):=by unfold Hid;rw [HV.out,if_neg hc]
  have kr:=HKR.out.next (hb1);obtain ⟨r0,r1,r2⟩:=kr.cells3;have f0:=kr.frozen 0;have f1:=kr.frozen 1;have f2:=kr.frozen 2;have HKR2:=Zh kr;clear kr;have hb2:=zAA HB0.out hb1;obtain ⟨p0,p1,p2⟩:=(HKA.out.next hb1).cells3;obtain ⟨q0,q1,q2⟩:=(HKB.out.next hb1).cells3;go_wp2_with fail
  rw [HV2.out];exact zoP Tryz.results167 HKR2.out (Or.inr ⟨rfl,rfl,rfl,rfl⟩) hb2 (by omega) rfl
theorem ipoint_any (x:Dy) (A:Option Addr) (n c:Nat) (w:World) (h:SL w A n c x.l) (hx:Bd x):Calls Tryz.prog 163 #[.agg #[.bool x.neg,.slice A n c,.int .i64 x.e]] w (zqF (ptI x) w):=by
 obtain ⟨W0,eW,hb0,ka,kr⟩:=al2 w #[.bool x.neg,.slice A n c,.int .i64 x.e] 41 #[.bool false,.slice none 0 0,.int .i64 0,.bool false,.slice none 0 0,.int .i64 0,.bool false] 43;have HC:=Zh (zEl [.bool x.neg,.slice A n c,.int .i64 x.e] x _ ⟨A,n,c,rfl,h.below hb0⟩ hx);have HV:Hid (ptI x=if vld x=true then ⟨x,x,false⟩ else whl):=rfl;have HS:=Zh h;generalize ptI x=PP at *;obtain ⟨p0,p1,p2⟩:=ka.cells3;clear h hx;go_enter Tryz.func163,Tryz.ntmps163
 go_wp2_with fail
 clear eW;have HB0:=Zh hb0;have HKA:=Zh ka;have HKR:=Zh kr;clear ka kr hb0 p0 p1 p2;refine HC.out.mono ?_;rintro e w1 ⟨rfl,hb1⟩
 have HB1:=Zh hb1;clear hb1 HC;cases hv:vld x
 ·have HV2:Hid (PP=whl):=by unfold Hid;rw [HV.out,hv];rfl
  clear HV hv;go_wp2_with fail
  refine (zob _).mono ?_;rintro e2 w2 ⟨A3,n3,c3,B3,m3,q3,rfl,hs3,hs4,hb3⟩
  have kr:=HKR.out.next (zAA HB1.out hb3);obtain ⟨r0,r1,r2,r3,r4,r5,r6⟩:=kr.cells7;have f0:=kr.frozen 0;have f1:=kr.frozen 1;have f2:=kr.frozen 2;have f3:=kr.frozen 3;have f4:=kr.frozen 4;have f5:=kr.frozen 5;have f6:=kr.frozen 6;have HKR2:=Zh kr;clear kr;have HB3:=Zh (zAA HB0.out (zAA HB1.out hb3));have HS3:=Zh hs3;have HS4:=Zh hs4;clear hs3 hs4 hb3;go_wp2_with fail
  rw [HV2.out];exact zpj Tryz.results163 HKR2.out HS3.out HS4.out HB3.out (by omega) rfl
 ·have HV2:Hid (PP=⟨x,x,false⟩):=by unfold Hid;rw [HV.out,hv];rfl
  obtain ⟨p0,p1,p2⟩:=(HKA.out.next HB1.out).cells3;have kr:=HKR.out.next HB1.out;obtain ⟨r0,r1,r2,r3,r4,r5,r6⟩:=kr.cells7;have f0:=kr.frozen 0;have f1:=kr.frozen 1;have f2:=kr.frozen 2;have f3:=kr.frozen 3;have f4:=kr.frozen 4;have f5:=kr.frozen 5;have f6:=kr.frozen 6;have HKR2:=Zh kr;clear kr;have HB3:=Zh (zAA HB0.out HB1.out);have HS3:=Zh (HS.out.below HB3.out);clear HV hv;go_wp2_with fail
  rw [HV2.out];exact zpj Tryz.results163 HKR2.out HS3.out HS3.out HB3.out (by omega) rfl
theorem zo2 (x y:Iv) (A1 B1 A2 B2:Option Addr) (n1 c1 m1 d1 n2 c2 m2 d2:Nat) (w:World) (h1:SL w A1 n1 c1 x.lo.l) (h2:SL w B1 m1 d1 x.hi.l) (h3:SL w A2 n2 c2 y.lo.l) (h4:SL w B2 m2 d2 y.hi.l) (hx:BdI x) (hy:BdI y) :
  Calls Tryz.prog 82 #[.agg #[.bool x.lo.neg,.slice A1 n1 c1,.int .i64 x.lo.e,.bool x.hi.neg,.slice B1 m1 d1,.int .i64 x.hi.e,.bool x.all],.agg #[.bool y.lo.neg,.slice A2 n2 c2,.int .i64 y.lo.e,.bool y.hi.neg,.slice B2 m2 d2,.int .i64 y.hi.e,.bool y.all]] w (zpv (fun Q=>Q none 0 0 []/\Q A1 n1 c1 x.lo.l/\Q B1 m1 d1 x.hi.l/\Q A2 n2 c2 y.lo.l/\Q B2 m2 d2 y.hi.l) (znc x y) w):=by
 obtain ⟨W0,eW,hb0,ka,kb,kr⟩:=al3 w #[.bool x.lo.neg,.slice A1 n1 c1,.int .i64 x.lo.e,.bool x.hi.neg,.slice B1 m1 d1,.int .i64 x.hi.e,.bool x.all] 43 #[.bool y.lo.neg,.slice A2 n2 c2,.int .i64 y.lo.e,.bool y.hi.neg,.slice B2 m2 d2,.int .i64 y.hi.e,.bool y.all] 43 #[.bool false,.slice none 0 0,.int .i64 0,.bool false,.slice none 0 0,.int .i64 0,.bool false] 43;obtain ⟨p0,p1,p2,p3,p4,p5,p6⟩:=ka.cells7;have HX:=Zh (fun W (hb:Below w.heap.size w W)=>zD9 [.bool x.lo.neg,.slice A1 n1 c1,.int .i64 x.lo.e,.bool x.hi.neg,.slice B1 m1 d1,.int .i64 x.hi.e,.bool x.all] x W ⟨A1,n1,c1,B1,m1,d1,rfl,h1.below hb,h2.below hb⟩ hx);have HY:=Zh (fun W (hb:Below w.heap.size w W)=>zD9 [.bool y.lo.neg,.slice A2 n2 c2,.int .i64 y.lo.e,.bool y.hi.neg,.slice B2 m2 d2,.int .i64 y.hi.e,.bool y.all] y W ⟨A2,n2,c2,B2,m2,d2,rfl,h3.below hb,h4.below hb⟩ hy);have HM:=Zh (fun W (hb:Below w.heap.size w W)=>zo3 x.lo y.lo A1 A2 n1 c1 n2 c2 W (h1.below hb) (h3.below hb) hx.1 hy.1);have HL:=Zh (fun W (hb:Below w.heap.size w W)=>zo0 x.hi y.hi B1 B2 m1 d1 m2 d2 W (h2.below hb) (h4.below hb) hx.2 hy.2);have HBD:Hid (Bd (mrD x.lo y.lo)/\Bd (lsD x.hi y.hi)):=⟨by unfold mrD;split;exact hx.1;exact hy.1,by unfold lsD;split;exact hx.2;exact hy.2⟩;have HV:Hid (znc x y=if (ivV x && ivV y)=true then (if x.all then some y else if y.all then some x else if 0<zCH (mrD x.lo y.lo) (lsD x.hi y.hi) then none else some ⟨mrD x.lo y.lo,lsD x.hi y.hi,false⟩) else none):=rfl;generalize znc x y=PP at *;generalize mrD x.lo y.lo=mr at *;generalize lsD x.hi y.hi=ls at *;have HS1:=Zh h1;have HS2:=Zh h2;have HS3:=Zh h3;have HS4:=Zh h4;clear h1 h2 h3 h4 hx hy;go_enter Tryz.func82,Tryz.ntmps82
 go_wp2_with fail
 clear eW;have HB0:=Zh hb0;have HKA:=Zh ka;have HKB:=Zh kb;have HKR:=Zh kr;clear ka kb kr hb0 p0 p1 p2 p3 p4 p5 p6;refine (HX.out _ HB0.out).mono ?_;rintro e w1 ⟨rfl,hb1⟩
 have HB1:=Zh hb1;clear hb1 HX;cases hvx:ivV x
 ·have HV2:Hid (PP=none):=by unfold Hid;rw [HV.out,hvx];rfl
  clear HV;have kr:=HKR.out.next HB1.out;obtain ⟨r0,r1,r2,r3,r4,r5,r6⟩:=kr.cells7;have f0:=kr.frozen 0;have f1:=kr.frozen 1;have f2:=kr.frozen 2;have f3:=kr.frozen 3;have f4:=kr.frozen 4;have f5:=kr.frozen 5;have f6:=kr.frozen 6;have HKR2:=Zh kr;clear kr;go_wp2_with fail
  rw [HV2.out];exact znf (o:=none) (x:=⟨zAZ,zAZ,false⟩) Tryz.results82 ⟨rfl,rfl⟩ HKR2.out (SL.nil _) (SL.nil _) (fun Q t=>⟨t.1,t.1⟩) (zAA HB0.out HB1.out) (by omega) rfl rfl
 ·obtain ⟨q0,q1,q2,q3,q4,q5,q6⟩:=(HKB.out.next HB1.out).cells7
  go_wp2_with fail
  refine (HY.out _ (zAA HB0.out HB1.out)).mono ?_;rintro e w2 ⟨rfl,hb2⟩
  replace HB1:=Zh (zAA HB1.out hb2);clear hb2 HY q0 q1 q2 q3 q4 q5 q6;cases hvy:ivV y
  ·have HV2:Hid (PP=none):=by unfold Hid;rw [HV.out,hvx,hvy];rfl
   clear HV;have kr:=HKR.out.next HB1.out;obtain ⟨r0,r1,r2,r3,r4,r5,r6⟩:=kr.cells7;have f0:=kr.frozen 0;have f1:=kr.frozen 1;have f2:=kr.frozen 2;have f3:=kr.frozen 3;have f4:=kr.frozen 4;have f5:=kr.frozen 5;have f6:=kr.frozen 6;have HKR2:=Zh kr;clear kr;go_wp2_with fail
   rw [HV2.out];exact znf (o:=none) (x:=⟨zAZ,zAZ,false⟩) Tryz.results82 ⟨rfl,rfl⟩ HKR2.out (SL.nil _) (SL.nil _) (fun Q t=>⟨t.1,t.1⟩) (zAA HB0.out HB1.out) (by omega) rfl rfl
  ·have HV1:Hid (PP=if x.all then some y else if y.all then some x else if 0<zCH mr ls then none else some ⟨mr,ls,false⟩):=by unfold Hid;rw [HV.out,hvx,hvy];rfl
   obtain ⟨p0,p1,p2,p3,p4,p5,p6⟩:=(HKA.out.next HB1.out).cells7;obtain ⟨q0,q1,q2,q3,q4,q5,q6⟩:=(HKB.out.next HB1.out).cells7;clear HV hvx hvy;cases hax:x.all
   ·rw [hax] at HV1 p6
    cases hay:y.all
    ·rw [hay] at HV1 q6
     have HV2:Hid (PP=if 0<zCH mr ls then none else some ⟨mr,ls,false⟩):=HV1.out;have HKA2:Hid (Blk W0 w.heap.size 43 #[.bool x.lo.neg,.slice A1 n1 c1,.int .i64 x.lo.e,.bool x.hi.neg,.slice B1 m1 d1,.int .i64 x.hi.e,.bool false]):=by rw [<- hax];exact HKA.out
     have HKB2:Hid (Blk W0 (w.heap.size+1) 43 #[.bool y.lo.neg,.slice A2 n2 c2,.int .i64 y.lo.e,.bool y.hi.neg,.slice B2 m2 d2,.int .i64 y.hi.e,.bool false]):=by rw [<- hay];exact HKB.out
     clear HV1;go_upto_region 7 with fail
     clear p0 p1 p2 p3 p4 p5 p6 q0 q1 q2 q3 q4 q5 q6 HKA HKB
     go_cut [6] (fun s6 wx=>∃ (g:Nat) (A3 B3:Option Addr) (n3 c3 m3 d3:Nat),s6=.pointer (some ⟨g,0,none⟩)/\Blk wx g 43 #[.bool mr.neg,.slice A3 n3 c3,.int .i64 mr.e,.bool ls.neg,.slice B3 m3 d3,.int .i64 ls.e,.bool false]/\SL wx A3 n3 c3 mr.l/\SL wx B3 m3 d3 ls.l/\(((mr=x.lo/\A3=A1/\n3=n1/\c3=c1)\/(mr=y.lo/\A3=A2/\n3=n2/\c3=c2))/\((ls=x.hi/\B3=B1/\m3=m1/\d3=d1)\/(ls=y.hi/\B3=B2/\m3=m2/\d3=d2)))/\Below W0.heap.size W0 wx)
     case first=>
      have hB:=zAA HB1.out (zBw w2);have HK:Hid (∀V,Below W0.heap.size W0 V->(fun W=>Blk W w.heap.size 43 #[.bool x.lo.neg,.slice A1 n1 c1,.int .i64 x.lo.e,.bool x.hi.neg,.slice B1 m1 d1,.int .i64 x.hi.e,.bool false]/\Blk W (w.heap.size+1) 43 #[.bool y.lo.neg,.slice A2 n2 c2,.int .i64 y.lo.e,.bool y.hi.neg,.slice B2 m2 d2,.int .i64 y.hi.e,.bool false]) V):=fun V hV=>⟨HKA2.out.next hV,HKB2.out.next hV⟩
      have HKp:=Zh (HK.out _ hB);have HCE:=Zh (fun (W:World) (hSw:(fun W=>Blk W w.heap.size 43 #[.bool x.lo.neg,.slice A1 n1 c1,.int .i64 x.lo.e,.bool x.hi.neg,.slice B1 m1 d1,.int .i64 x.hi.e,.bool false]/\Blk W (w.heap.size+1) 43 #[.bool y.lo.neg,.slice A2 n2 c2,.int .i64 y.lo.e,.bool y.hi.neg,.slice B2 m2 d2,.int .i64 y.hi.e,.bool false]) W)=>And.intro (Blk.cells7 hSw.1) (Blk.cells7 hSw.2));refine wp_region_held_drew (S:=(fun W=>Blk W w.heap.size 43 #[.bool x.lo.neg,.slice A1 n1 c1,.int .i64 x.lo.e,.bool x.hi.neg,.slice B1 m1 d1,.int .i64 x.hi.e,.bool false]/\Blk W (w.heap.size+1) 43 #[.bool y.lo.neg,.slice A2 n2 c2,.int .i64 y.lo.e,.bool y.hi.neg,.slice B2 m2 d2,.int .i64 y.hi.e,.bool false])) (by kernel_rfl) (HKp.out) (fun hH=>?_);generalize w2.drew=Wd at *;refine tkc 0 HCE.out hH ?_;refine tkc 1 HCE.out hH ?_;refine tkc 2 HCE.out hH ?_;refine tkc 3 HCE.out hH ?_;refine tkc 5 HCE.out hH ?_;refine tkc 6 HCE.out hH ?_;refine tkc 7 HCE.out hH ?_;refine tkc 8 HCE.out hH ?_;simp only [Act.put,sT,sZ,sS];refine Yj (rs:=[4,11]) (by kernel_rfl) (by simp) ?_;refine Yc (o:=⟨_,_,_,_,_,_⟩) rfl (fun K hK=>?_) ?_
      ·go_simp
       refine (HM.out _ (zAA HB0.out hB)).mono ?_;rintro e3 V1 ⟨A3,n3,c3,rfl,hpm,hc⟩
       have HPM:=Zh hpm;have hs3:SL V1 A3 n3 c3 mr.l:=zoF (Q:=fun A n c l=>SL V1 A n c l) hpm ((HS1.out.below (zAA HB0.out hB)).below hc) ((HS3.out.below (zAA HB0.out hB)).below hc);clear hpm;replace hB:=zAA hB hc;replace HKp:=Zh (HK.out _ hB)
       try replace HG:=Zh (HG.out.next hc)
       try replace HMs:=Zh (HMs.out.below hc)
       have HMs:=Zh hs3;clear hs3 hc;go_wp2_with fail
       refine hK.out _ _ (HKp.out) (fun hH=>?_);clear hK K;refine Yj (rs:=[9,11]) (by kernel_rfl) (by simp) ?_;refine Yc (o:=⟨_,_,_,_,_,_⟩) rfl (fun K hK=>?_) ?_
       ·go_simp
        refine (HL.out _ (zAA HB0.out hB)).mono ?_;rintro e3 V2 ⟨B3,m3,d3,rfl,hpl,hc⟩
        have HPL:=Zh hpl;have hs4:SL V2 B3 m3 d3 ls.l:=zoF (Q:=fun A n c l=>SL V2 A n c l) hpl ((HS2.out.below (zAA HB0.out hB)).below hc) ((HS4.out.below (zAA HB0.out hB)).below hc);clear hpl;replace hB:=zAA hB hc;replace HKp:=Zh (HK.out _ hB)
        try replace HG:=Zh (HG.out.next hc)
        try replace HMs:=Zh (HMs.out.below hc)
        have HLs:=Zh hs4;clear hs4 hc;go_wp2_with fail
        refine hK.out _ _ (HKp.out) (fun hH=>?_);clear hK K;refine tkc 10 HCE.out hH ?_;simp only [Act.put,sT,sZ,sS];refine rdh 11 (fun K hK=>?_)
        go_simp
        have HG:Hid (Blk (V2.alloc (.cells #[.bool false,.slice none 0 0,.int .i64 0,.bool false,.slice none 0 0,.int .i64 0,.bool false] 43)) V2.heap.size 43 #[.bool false,.slice none 0 0,.int .i64 0,.bool false,.slice none 0 0,.int .i64 0,.bool false]):=Blk.new _ _ _;have hc:=zAE V2 (.cells #[.bool false,.slice none 0 0,.int .i64 0,.bool false,.slice none 0 0,.int .i64 0,.bool false] 43);have hga:=hB.size;replace hB:=zAA hB hc;replace HKp:=Zh (HK.out _ hB)
        try replace HMs:=Zh (HMs.out.below hc)
        try replace HLs:=Zh (HLs.out.below hc)
        clear hc;generalize (V2.alloc (.cells #[.bool false,.slice none 0 0,.int .i64 0,.bool false,.slice none 0 0,.int .i64 0,.bool false] 43))=Y1 at *;refine hK.out _ _ (HKp.out) (fun hH=>?_);clear hK K;refine rdh 12 (fun K hK=>?_);obtain ⟨r0,r1,r2,r3,r4,r5,r6⟩:=HG.out.cells7;have f0:=HG.out.frozen 0;have f1:=HG.out.frozen 1;have f2:=HG.out.frozen 2;have f3:=HG.out.frozen 3;have f4:=HG.out.frozen 4;have f5:=HG.out.frozen 5;have f6:=HG.out.frozen 6
        go_simp
        clear r0 r1 r2 r3 r4 r5 r6 f0 f1 f2 f3 f4 f5 f6;have HG2:=Zh (HG.out.set7 (.bool mr.neg) (.slice A3 n3 c3) (.int .i64 mr.e) (.bool ls.neg) (.slice B3 m3 d3) (.int .i64 ls.e) (.bool false));have hbe:=zC0 hB (show W0.heap.size<=V2.heap.size by omega) (.bool mr.neg) (.slice A3 n3 c3) (.int .i64 mr.e) (.bool ls.neg) (.slice B3 m3 d3) (.int .i64 ls.e) (.bool false);have hA:=HMs.out.away HG.out (znA _ _ _ _ _ _ _ _ _ _ _);have hA2:=HLs.out.away HG.out (znA _ _ _ _ _ _ _ _ _ _ _);have HMs2:=Zh (HMs.out.past7 hA (.bool mr.neg) (.slice A3 n3 c3) (.int .i64 mr.e) (.bool ls.neg) (.slice B3 m3 d3) (.int .i64 ls.e) (.bool false));have HLs2:=Zh (HLs.out.past7 hA2 (.bool mr.neg) (.slice A3 n3 c3) (.int .i64 mr.e) (.bool ls.neg) (.slice B3 m3 d3) (.int .i64 ls.e) (.bool false));generalize (((((((Y1.setCell ⟨V2.heap.size,0,none⟩ (.bool mr.neg)).setCell ⟨V2.heap.size,1,none⟩ (.slice A3 n3 c3)).setCell ⟨V2.heap.size,2,none⟩ (.int .i64 mr.e)).setCell ⟨V2.heap.size,3,none⟩ (.bool ls.neg)).setCell ⟨V2.heap.size,4,none⟩ (.slice B3 m3 d3)).setCell ⟨V2.heap.size,5,none⟩ (.int .i64 ls.e)).setCell ⟨V2.heap.size,6,none⟩ (.bool false))=WE at *;replace HKp:=Zh (HK.out _ hbe);refine hK.out _ _ (HKp.out) (fun hH=>?_);clear hK K;refine wpAnyH_done (by kernel_rfl) ?_ _;go_wp2_with fail
        go_meet
        exact ⟨_,A3,B3,n3,c3,m3,d3,rfl,HG2.out,HMs2.out,HLs2.out,⟨HPM.out,HPL.out⟩,hbe⟩
       refine Yc (o:=⟨_,_,_,_,_,_⟩) rfl (fun K hK=>?_) Yd
       go_simp
       have HG:Hid (Blk (V1.alloc (.cells #[.bool false,.slice none 0 0,.int .i64 0,.bool false,.slice none 0 0,.int .i64 0,.bool false] 43)) V1.heap.size 43 #[.bool false,.slice none 0 0,.int .i64 0,.bool false,.slice none 0 0,.int .i64 0,.bool false]):=Blk.new _ _ _;have hc:=zAE V1 (.cells #[.bool false,.slice none 0 0,.int .i64 0,.bool false,.slice none 0 0,.int .i64 0,.bool false] 43);have hga:=hB.size;replace hB:=zAA hB hc;replace HKp:=Zh (HK.out _ hB)
       try replace HMs:=Zh (HMs.out.below hc)
       try replace HLs:=Zh (HLs.out.below hc)
       clear hc;generalize (V1.alloc (.cells #[.bool false,.slice none 0 0,.int .i64 0,.bool false,.slice none 0 0,.int .i64 0,.bool false] 43))=Y2 at *;refine hK.out _ _ (HKp.out) (fun hH=>?_);clear hK K;refine rdh 9 (fun K hK=>?_)
       go_simp
       refine (HL.out _ (zAA HB0.out hB)).mono ?_;rintro e3 V6 ⟨B3,m3,d3,rfl,hpl,hc⟩
       have HPL:=Zh hpl;have hs4:SL V6 B3 m3 d3 ls.l:=zoF (Q:=fun A n c l=>SL V6 A n c l) hpl ((HS2.out.below (zAA HB0.out hB)).below hc) ((HS4.out.below (zAA HB0.out hB)).below hc);clear hpl;replace hB:=zAA hB hc;replace HKp:=Zh (HK.out _ hB)
       try replace HG:=Zh (HG.out.next hc)
       try replace HMs:=Zh (HMs.out.below hc)
       have HLs:=Zh hs4;clear hs4 hc;go_wp2_with fail
       refine hK.out _ _ (HKp.out) (fun hH=>?_);clear hK K;refine tkc 10 HCE.out hH ?_;simp only [Act.put,sT,sZ,sS];refine rdh 12 (fun K hK=>?_);obtain ⟨r0,r1,r2,r3,r4,r5,r6⟩:=HG.out.cells7;have f0:=HG.out.frozen 0;have f1:=HG.out.frozen 1;have f2:=HG.out.frozen 2;have f3:=HG.out.frozen 3;have f4:=HG.out.frozen 4;have f5:=HG.out.frozen 5;have f6:=HG.out.frozen 6
       go_simp
       clear r0 r1 r2 r3 r4 r5 r6 f0 f1 f2 f3 f4 f5 f6;have HG2:=Zh (HG.out.set7 (.bool mr.neg) (.slice A3 n3 c3) (.int .i64 mr.e) (.bool ls.neg) (.slice B3 m3 d3) (.int .i64 ls.e) (.bool false));have hbe:=zC0 hB (show W0.heap.size<=V1.heap.size by omega) (.bool mr.neg) (.slice A3 n3 c3) (.int .i64 mr.e) (.bool ls.neg) (.slice B3 m3 d3) (.int .i64 ls.e) (.bool false);have hA:=HMs.out.away HG.out (znA _ _ _ _ _ _ _ _ _ _ _);have hA2:=HLs.out.away HG.out (znA _ _ _ _ _ _ _ _ _ _ _);have HMs2:=Zh (HMs.out.past7 hA (.bool mr.neg) (.slice A3 n3 c3) (.int .i64 mr.e) (.bool ls.neg) (.slice B3 m3 d3) (.int .i64 ls.e) (.bool false));have HLs2:=Zh (HLs.out.past7 hA2 (.bool mr.neg) (.slice A3 n3 c3) (.int .i64 mr.e) (.bool ls.neg) (.slice B3 m3 d3) (.int .i64 ls.e) (.bool false));generalize (((((((V6.setCell ⟨V1.heap.size,0,none⟩ (.bool mr.neg)).setCell ⟨V1.heap.size,1,none⟩ (.slice A3 n3 c3)).setCell ⟨V1.heap.size,2,none⟩ (.int .i64 mr.e)).setCell ⟨V1.heap.size,3,none⟩ (.bool ls.neg)).setCell ⟨V1.heap.size,4,none⟩ (.slice B3 m3 d3)).setCell ⟨V1.heap.size,5,none⟩ (.int .i64 ls.e)).setCell ⟨V1.heap.size,6,none⟩ (.bool false))=WE at *;replace HKp:=Zh (HK.out _ hbe);refine hK.out _ _ (HKp.out) (fun hH=>?_);clear hK K;refine wpAnyH_done (by kernel_rfl) ?_ _;go_wp2_with fail
       go_meet
       exact ⟨_,A3,B3,n3,c3,m3,d3,rfl,HG2.out,HMs2.out,HLs2.out,⟨HPM.out,HPL.out⟩,hbe⟩
      refine Yc (o:=⟨_,_,_,_,_,_⟩) rfl (fun K hK=>?_) Yd
      go_simp
      have HG:Hid (Blk (Wd.alloc (.cells #[.bool false,.slice none 0 0,.int .i64 0,.bool false,.slice none 0 0,.int .i64 0,.bool false] 43)) Wd.heap.size 43 #[.bool false,.slice none 0 0,.int .i64 0,.bool false,.slice none 0 0,.int .i64 0,.bool false]):=Blk.new _ _ _;have hc:=zAE Wd (.cells #[.bool false,.slice none 0 0,.int .i64 0,.bool false,.slice none 0 0,.int .i64 0,.bool false] 43);have hga:=hB.size;replace hB:=zAA hB hc;replace HKp:=Zh (HK.out _ hB)
      try replace HMs:=Zh (HMs.out.below hc)
      try replace HLs:=Zh (HLs.out.below hc)
      clear hc;generalize (Wd.alloc (.cells #[.bool false,.slice none 0 0,.int .i64 0,.bool false,.slice none 0 0,.int .i64 0,.bool false] 43))=Y3 at *;refine hK.out _ _ (HKp.out) (fun hH=>?_);clear hK K;refine rdh 4 (fun K hK=>?_)
      go_simp
      refine (HM.out _ (zAA HB0.out hB)).mono ?_;rintro e3 V9 ⟨A3,n3,c3,rfl,hpm,hc⟩
      have HPM:=Zh hpm;have hs3:SL V9 A3 n3 c3 mr.l:=zoF (Q:=fun A n c l=>SL V9 A n c l) hpm ((HS1.out.below (zAA HB0.out hB)).below hc) ((HS3.out.below (zAA HB0.out hB)).below hc);clear hpm;replace hB:=zAA hB hc;replace HKp:=Zh (HK.out _ hB)
      try replace HG:=Zh (HG.out.next hc)
      try replace HMs:=Zh (HMs.out.below hc)
      have HMs:=Zh hs3;clear hs3 hc;go_wp2_with fail
      refine hK.out _ _ (HKp.out) (fun hH=>?_);clear hK K;refine rdh 9 (fun K hK=>?_)
      go_simp
      refine (HL.out _ (zAA HB0.out hB)).mono ?_;rintro e3 V10 ⟨B3,m3,d3,rfl,hpl,hc⟩
      have HPL:=Zh hpl;have hs4:SL V10 B3 m3 d3 ls.l:=zoF (Q:=fun A n c l=>SL V10 A n c l) hpl ((HS2.out.below (zAA HB0.out hB)).below hc) ((HS4.out.below (zAA HB0.out hB)).below hc);clear hpl;replace hB:=zAA hB hc;replace HKp:=Zh (HK.out _ hB)
      try replace HG:=Zh (HG.out.next hc)
      try replace HMs:=Zh (HMs.out.below hc)
      have HLs:=Zh hs4;clear hs4 hc;go_wp2_with fail
      refine hK.out _ _ (HKp.out) (fun hH=>?_);clear hK K;refine tkc 10 HCE.out hH ?_;simp only [Act.put,sT,sZ,sS];refine rdh 12 (fun K hK=>?_);obtain ⟨r0,r1,r2,r3,r4,r5,r6⟩:=HG.out.cells7;have f0:=HG.out.frozen 0;have f1:=HG.out.frozen 1;have f2:=HG.out.frozen 2;have f3:=HG.out.frozen 3;have f4:=HG.out.frozen 4;have f5:=HG.out.frozen 5;have f6:=HG.out.frozen 6
      go_simp
      clear r0 r1 r2 r3 r4 r5 r6 f0 f1 f2 f3 f4 f5 f6;have HG2:=Zh (HG.out.set7 (.bool mr.neg) (.slice A3 n3 c3) (.int .i64 mr.e) (.bool ls.neg) (.slice B3 m3 d3) (.int .i64 ls.e) (.bool false));have hbe:=zC0 hB (show W0.heap.size<=Wd.heap.size by omega) (.bool mr.neg) (.slice A3 n3 c3) (.int .i64 mr.e) (.bool ls.neg) (.slice B3 m3 d3) (.int .i64 ls.e) (.bool false);have hA:=HMs.out.away HG.out (znA _ _ _ _ _ _ _ _ _ _ _);have hA2:=HLs.out.away HG.out (znA _ _ _ _ _ _ _ _ _ _ _);have HMs2:=Zh (HMs.out.past7 hA (.bool mr.neg) (.slice A3 n3 c3) (.int .i64 mr.e) (.bool ls.neg) (.slice B3 m3 d3) (.int .i64 ls.e) (.bool false));have HLs2:=Zh (HLs.out.past7 hA2 (.bool mr.neg) (.slice A3 n3 c3) (.int .i64 mr.e) (.bool ls.neg) (.slice B3 m3 d3) (.int .i64 ls.e) (.bool false));generalize (((((((V10.setCell ⟨Wd.heap.size,0,none⟩ (.bool mr.neg)).setCell ⟨Wd.heap.size,1,none⟩ (.slice A3 n3 c3)).setCell ⟨Wd.heap.size,2,none⟩ (.int .i64 mr.e)).setCell ⟨Wd.heap.size,3,none⟩ (.bool ls.neg)).setCell ⟨Wd.heap.size,4,none⟩ (.slice B3 m3 d3)).setCell ⟨Wd.heap.size,5,none⟩ (.int .i64 ls.e)).setCell ⟨Wd.heap.size,6,none⟩ (.bool false))=WE at *;replace HKp:=Zh (HK.out _ hbe);refine hK.out _ _ (HKp.out) (fun hH=>?_);clear hK K;refine wpAnyH_done (by kernel_rfl) ?_ _;go_wp2_with fail
      go_meet
      exact ⟨_,A3,B3,n3,c3,m3,d3,rfl,HG2.out,HMs2.out,HLs2.out,⟨HPM.out,HPL.out⟩,hbe⟩
     case rest=>
      obtain ⟨g,A3,B3,n3,c3,m3,d3,rfl,kg,hs3,hs4,hpp,hb3⟩:=hcut;have HPP:=Zh hpp;have HC:=Zh (zLb mr.neg ls.neg A3 B3 n3 c3 m3 d3 mr.l ls.l mr.e ls.e wc hs3 hs4 (by have:=hs3.len;have:=HBD.out.1;unfold Bd at this;omega) (by have:=hs4.len;have:=HBD.out.2;unfold Bd at this;omega))
      change Hid (Calls _ _ _ wc (fun e w'=>e=.returned (.int .i64 (zCH mr ls))/\Below wc.heap.size wc w')) at HC
      obtain ⟨x0,x1,x2,x3,x4,x5,x6⟩:=kg.cells7;have HKG:=Zh kg;have HS5:=Zh hs3;have HS6:=Zh hs4;have HB3:=Zh hb3;generalize zCH mr ls=r at *;clear kg hs3 hs4 hb3 hpp;go_wp2_with fail
      refine HC.out.mono ?_;rintro e w3 ⟨rfl,hb4⟩
      have HB4:=Zh (zAA HB3.out hb4);clear x0 x1 x2 x3 x4 x5 x6;by_cases hc:0<r
      ·have HV3:Hid (PP=none):=by unfold Hid;rw [HV2.out,if_pos hc]
       clear HV2;have HV2:=HV3;have kr:=HKR.out.next HB4.out;obtain ⟨r0,r1,r2,r3,r4,r5,r6⟩:=kr.cells7;have f0:=kr.frozen 0;have f1:=kr.frozen 1;have f2:=kr.frozen 2;have f3:=kr.frozen 3;have f4:=kr.frozen 4;have f5:=kr.frozen 5;have f6:=kr.frozen 6;have HKR2:=Zh kr;clear kr;go_wp2_with fail
       rw [HV2.out];exact znf (o:=none) (x:=⟨zAZ,zAZ,false⟩) Tryz.results82 ⟨rfl,rfl⟩ HKR2.out (SL.nil _) (SL.nil _) (fun Q t=>⟨t.1,t.1⟩) (zAA HB0.out HB4.out) (by omega) rfl rfl
      ·have HV3:Hid (PP=some ⟨mr,ls,false⟩):=by unfold Hid;rw [HV2.out,if_neg hc]
       clear HV2;obtain ⟨x0,x1,x2,x3,x4,x5,x6⟩:=(HKG.out.next hb4).cells7;have kr:=HKR.out.next HB4.out;obtain ⟨r0,r1,r2,r3,r4,r5,r6⟩:=kr.cells7;have f0:=kr.frozen 0;have f1:=kr.frozen 1;have f2:=kr.frozen 2;have f3:=kr.frozen 3;have f4:=kr.frozen 4;have f5:=kr.frozen 5;have f6:=kr.frozen 6;have HKR2:=Zh kr;clear kr;go_wp2_with fail
       rw [HV3.out];exact znf (o:=some ⟨mr,ls,false⟩) (x:=⟨mr,ls,false⟩) Tryz.results82 ⟨rfl,rfl⟩ HKR2.out (HS5.out.below hb4) (HS6.out.below hb4) (fun Q t=>⟨zoF HPP.out.1 t.2.1 t.2.2.2.1,zoF HPP.out.2 t.2.2.1 t.2.2.2.2⟩) (zAA HB0.out HB4.out) (by omega) rfl rfl
    ·rw [hay] at HV1
     have hxe:x=⟨x.lo,x.hi,false⟩:=by
      obtain ⟨a,b,k⟩:=x;dsimp only at hax;subst hax;rfl
     have HV2:Hid (PP=some ⟨x.lo,x.hi,false⟩):=by unfold Hid;rw [<- hxe];exact HV1.out
     rw [hay] at q6;clear hxe;have kr:=HKR.out.next HB1.out;obtain ⟨r0,r1,r2,r3,r4,r5,r6⟩:=kr.cells7;have f0:=kr.frozen 0;have f1:=kr.frozen 1;have f2:=kr.frozen 2;have f3:=kr.frozen 3;have f4:=kr.frozen 4;have f5:=kr.frozen 5;have f6:=kr.frozen 6;have HKR2:=Zh kr;clear kr;go_wp2_with fail
     rw [HV2.out];exact znf (o:=some ⟨x.lo,x.hi,false⟩) (x:=⟨x.lo,x.hi,false⟩) Tryz.results82 ⟨rfl,rfl⟩ HKR2.out (HS1.out.below (zAA HB0.out HB1.out)) (HS2.out.below (zAA HB0.out HB1.out)) (fun Q t=>⟨t.2.1,t.2.2.1⟩) (zAA HB0.out HB1.out) (by omega) rfl rfl
   ·rw [hax] at HV1
    have HV2:Hid (PP=some y):=HV1.out;rw [hax] at p6;have kr:=HKR.out.next HB1.out;obtain ⟨r0,r1,r2,r3,r4,r5,r6⟩:=kr.cells7;have f0:=kr.frozen 0;have f1:=kr.frozen 1;have f2:=kr.frozen 2;have f3:=kr.frozen 3;have f4:=kr.frozen 4;have f5:=kr.frozen 5;have f6:=kr.frozen 6;have HKR2:=Zh kr;clear kr;go_wp2_with fail
    rw [HV2.out];exact znf (o:=some y) (x:=y) Tryz.results82 ⟨rfl,rfl⟩ HKR2.out (HS3.out.below (zAA HB0.out HB1.out)) (HS4.out.below (zAA HB0.out HB1.out)) (fun Q t=>⟨t.2.2.2.1,t.2.2.2.2⟩) (zAA HB0.out HB1.out) (by omega) rfl rfl
theorem zoQ {p:Int}{x y:Iv}{k:Nat}(h:f4s p x y k=none):∀j,f4s p x y (k+j)=none:=by
 intro j
 induction j with
 | zero=>exact h
 | succ j ih=>
  show f4s p x y ((k+j)+1)=none
  unfold f4s;rw [ih]
theorem Blk.set7a {w:World}{g:Nat}{t:TypeId}{a0 a1 a2 a3 a4 a5 a6:Value}(h:Blk w g t #[a0,a1,a2,a3,a4,a5,a6]) (x0 x1 x2:Value):Blk (((w.setCell ⟨g,0,none⟩ x0).setCell ⟨g,1,none⟩ x1).setCell ⟨g,2,none⟩ x2) g t #[x0,x1,x2,a3,a4,a5,a6]:=by
 have:=((h.set_ 0 x0).set_ 1 x1).set_ 2 x2
 simpa only [List.setIfInBounds_toArray,List.set_cons_zero,List.set_cons_succ] using this
theorem Blk.set7b {w:World}{g:Nat}{t:TypeId}{a0 a1 a2 a3 a4 a5 a6:Value}(h:Blk w g t #[a0,a1,a2,a3,a4,a5,a6]) (x0 x1 x2:Value):Blk (((w.setCell ⟨g,3,none⟩ x0).setCell ⟨g,4,none⟩ x1).setCell ⟨g,5,none⟩ x2) g t #[a0,a1,a2,x0,x1,x2,a6]:=by
 have:=((h.set_ 3 x0).set_ 4 x1).set_ 5 x2
 simpa only [List.setIfInBounds_toArray,List.set_cons_zero,List.set_cons_succ] using this
theorem SL.past3 {w:World}{A:Option Addr}{n c g:Nat}{l:List Nat}(h:SL w A n c l) (ha:zqE g n A) (i:Nat) (x0 x1 x2:Value):SL (((w.setCell ⟨g,i,none⟩ x0).setCell ⟨g,i+1,none⟩ x1).setCell ⟨g,i+2,none⟩ x2) A n c l:=((h.past ha i x0).past ha (i+1) x1).past ha (i+2) x2
theorem Blk.far3 {w:World}{g b:Nat}{t:TypeId}{cs:Array Value}(h:Blk w b t cs) (hb:b≠g) (i:Nat) (x0 x1 x2:Value):Blk (((w.setCell ⟨g,i,none⟩ x0).setCell ⟨g,i+1,none⟩ x1).setCell ⟨g,i+2,none⟩ x2) b t cs:=((h.far (p:=⟨g,i,none⟩) hb x0).far (p:=⟨g,i+1,none⟩) hb x1).far (p:=⟨g,i+2,none⟩) hb x2
theorem znU {B:Nat}{w w':World}{g:Nat}(h:Below B w w') (hg:B<=g) (i:Nat) (x0 x1 x2:Value):Below B w (((w'.setCell ⟨g,i,none⟩ x0).setCell ⟨g,i+1,none⟩ x1).setCell ⟨g,i+2,none⟩ x2):=
 ((h.setCell (p:=⟨g,i,none⟩) hg x0).setCell (p:=⟨g,i+1,none⟩) hg x1).setCell (p:=⟨g,i+2,none⟩) hg x2
section
variable {P:Program}{ops:Array Oper}{rest:List Oper}{o:Oper}{a:Act}{Q:Exit->Act->World->Prop}{w:World}{t:TypeId}{c c':Array Value}{p v:Operand}
theorem znR (hgd:o.guard=none) (ho:o.op=.store t p v) (hp:a.eval p=.pointer (some ⟨w.heap.size,0,none⟩)) (hv:a.eval v=.agg c') (hi:(P.info? t).map (·.size)=some c'.size) (hs:c.size=c'.size) (h1:c'.all (·.oneCell')=true)
  (h:wpList P ops Q rest (a.put o.dst undef) (w.alloc (.cells c' t))):wpList P ops Q (o::rest) a (w.alloc (.cells c t)):=by
 refine wpList_step (fun K hK=>?_);have hw:Region.wanted o (yielded ops a.tmps)=true:=by simp [Region.wanted,hgd]
 rw [if_pos hw];unfold Oper.wp;have:(execOp a.eval o).run P (w.alloc (.cells c t))=.ok .skip (w.alloc (.cells c' t)):=by
  unfold execOp;simp only [ho,hp,hv,Sem.run_bind];rw [run_storeAt_new w t c c' hi hs h1];rfl
 rw [this];exact hK _ _ h
theorem znY {g n:Nat}{e:TypeId}(hgd:o.guard=none) (ho:o.op=.load t p) (hp:a.eval p=.pointer (some ⟨g,0,none⟩)) (hB:Blk w g t c) (hu:P.underlying t=some (.array n e)) (hi:(P.info? t).map (·.size)=some c.size)
  (h:wpList P ops Q rest (a.put o.dst (.agg c)) w):wpList P ops Q (o::rest) a w:=by
 refine wpList_step (fun K hK=>?_);have hw:Region.wanted o (yielded ops a.tmps)=true:=by simp [Region.wanted,hgd]
 rw [if_pos hw];unfold Oper.wp;have:(execOp a.eval o).run P w=.ok (.value (.agg c)) w:=by
  unfold execOp;simp only [ho,hp,Sem.run_bind,Instr.loadAt,Instr.sureAddr,Sem.run_pure,Result.andThen];rw [run_loadVar_row _ _ t t c (0,0) _ hB hu rfl hi]
 rw [this];exact hK _ _ h
end
theorem zoz (x y:Iv) (p:Int) (A1 B1 A2 B2:Option Addr) (n1 c1 m1 d1 n2 c2 m2 d2:Nat) (w:World) (h1:SL w A1 n1 c1 x.lo.l) (h2:SL w B1 m1 d1 x.hi.l) (h3:SL w A2 n2 c2 y.lo.l) (h4:SL w B2 m2 d2 y.hi.l) (hx:BdI x) (hy:BdI y) (ht:zBx w) :
  Calls Tryz.prog 297 #[.agg #[.bool x.lo.neg,.slice A1 n1 c1,.int .i64 x.lo.e,.bool x.hi.neg,.slice B1 m1 d1,.int .i64 x.hi.e,.bool x.all],.agg #[.bool y.lo.neg,.slice A2 n2 c2,.int .i64 y.lo.e,.bool y.hi.neg,.slice B2 m2 d2,.int .i64 y.hi.e,.bool y.all],.int .i64 p,(.func (.func 298) #[] #[]),(.func (.func 299) #[] #[])] w (zpF w.heap.size ((f4s p x y 4).getD whl) w):=by
 obtain ⟨W0,eW,hb0,ka,kb,kr⟩:=al3 w #[.bool x.lo.neg,.slice A1 n1 c1,.int .i64 x.lo.e,.bool x.hi.neg,.slice B1 m1 d1,.int .i64 x.hi.e,.bool x.all] 43 #[.bool y.lo.neg,.slice A2 n2 c2,.int .i64 y.lo.e,.bool y.hi.neg,.slice B2 m2 d2,.int .i64 y.hi.e,.bool y.all] 43 #[.bool false,.slice none 0 0,.int .i64 0,.bool false,.slice none 0 0,.int .i64 0,.bool false] 43;obtain ⟨p0,p1,p2,p3,p4,p5,p6⟩:=ka.cells7;obtain ⟨q0,q1,q2,q3,q4,q5,q6⟩:=kb.cells7;go_enter Tryz.func297,Tryz.ntmps297
 go_upto_region 1 with fail
 clear eW;refine wp_region_lit ?_
 iterate 22 (refine wpList_step (fun K hK=>?_);go_simp;refine hK _ _ ?_;clear hK K)
 refine znR (c':=#[.bool x.lo.neg,.slice A1 n1 c1,.int .i64 x.lo.e,.bool y.lo.neg,.slice A2 n2 c2,.int .i64 y.lo.e,.bool x.lo.neg,.slice A1 n1 c1,.int .i64 x.lo.e,.bool y.hi.neg,.slice B2 m2 d2,.int .i64 y.hi.e,.bool x.hi.neg,.slice B1 m1 d1,.int .i64 x.hi.e,.bool y.lo.neg,.slice A2 n2 c2,.int .i64 y.lo.e,.bool x.hi.neg,.slice B1 m1 d1,.int .i64 x.hi.e,.bool y.hi.neg,.slice B2 m2 d2,.int .i64 y.hi.e]) rfl rfl rfl rfl (by kernel_rfl) rfl (by simp [Value.oneCell']) ?_;have HKP:=Zh (Blk.new W0 360 #[.bool x.lo.neg,.slice A1 n1 c1,.int .i64 x.lo.e,.bool y.lo.neg,.slice A2 n2 c2,.int .i64 y.lo.e,.bool x.lo.neg,.slice A1 n1 c1,.int .i64 x.lo.e,.bool y.hi.neg,.slice B2 m2 d2,.int .i64 y.hi.e,.bool x.hi.neg,.slice B1 m1 d1,.int .i64 x.hi.e,.bool y.lo.neg,.slice A2 n2 c2,.int .i64 y.lo.e,.bool x.hi.neg,.slice B1 m1 d1,.int .i64 x.hi.e,.bool y.hi.neg,.slice B2 m2 d2,.int .i64 y.hi.e]);have hW1:=zAE W0 (.cells #[.bool x.lo.neg,.slice A1 n1 c1,.int .i64 x.lo.e,.bool y.lo.neg,.slice A2 n2 c2,.int .i64 y.lo.e,.bool x.lo.neg,.slice A1 n1 c1,.int .i64 x.lo.e,.bool y.hi.neg,.slice B2 m2 d2,.int .i64 y.hi.e,.bool x.hi.neg,.slice B1 m1 d1,.int .i64 x.hi.e,.bool y.lo.neg,.slice A2 n2 c2,.int .i64 y.lo.e,.bool x.hi.neg,.slice B1 m1 d1,.int .i64 x.hi.e,.bool y.hi.neg,.slice B2 m2 d2,.int .i64 y.hi.e] 360);have hW1s:(W0.alloc (.cells #[.bool x.lo.neg,.slice A1 n1 c1,.int .i64 x.lo.e,.bool y.lo.neg,.slice A2 n2 c2,.int .i64 y.lo.e,.bool x.lo.neg,.slice A1 n1 c1,.int .i64 x.lo.e,.bool y.hi.neg,.slice B2 m2 d2,.int .i64 y.hi.e,.bool x.hi.neg,.slice B1 m1 d1,.int .i64 x.hi.e,.bool y.lo.neg,.slice A2 n2 c2,.int .i64 y.lo.e,.bool x.hi.neg,.slice B1 m1 d1,.int .i64 x.hi.e,.bool y.hi.neg,.slice B2 m2 d2,.int .i64 y.hi.e] 360)).heap.size=W0.heap.size+1:=by simp
 generalize W0.alloc (.cells #[.bool x.lo.neg,.slice A1 n1 c1,.int .i64 x.lo.e,.bool y.lo.neg,.slice A2 n2 c2,.int .i64 y.lo.e,.bool x.lo.neg,.slice A1 n1 c1,.int .i64 x.lo.e,.bool y.hi.neg,.slice B2 m2 d2,.int .i64 y.hi.e,.bool x.hi.neg,.slice B1 m1 d1,.int .i64 x.hi.e,.bool y.lo.neg,.slice A2 n2 c2,.int .i64 y.lo.e,.bool x.hi.neg,.slice B1 m1 d1,.int .i64 x.hi.e,.bool y.hi.neg,.slice B2 m2 d2,.int .i64 y.hi.e] 360)=W1 at *;clear p0 p1 p2 p3 p4 p5 p6 q0 q1 q2 q3 q4 q5 q6;refine wpList_nil ?_;go_upto_region 3 with fail
 have HKP2:=Zh (HKP.out.next (zAE W1 (.cells #[.bool false,.slice none 0 0,.int .i64 0,.bool false,.slice none 0 0,.int .i64 0,.bool false] 43)));have HKO:Hid (Blk (W1.alloc (.cells #[.bool false,.slice none 0 0,.int .i64 0,.bool false,.slice none 0 0,.int .i64 0,.bool false] 43)) (W0.heap.size+1) 43 #[.bool false,.slice none 0 0,.int .i64 0,.bool false,.slice none 0 0,.int .i64 0,.bool false]):=by unfold Hid;rw [<- hW1s];exact Blk.new W1 43 #[.bool false,.slice none 0 0,.int .i64 0,.bool false,.slice none 0 0,.int .i64 0,.bool false]
 have HB2:=Zh (zAA hW1 (zAE W1 (.cells #[.bool false,.slice none 0 0,.int .i64 0,.bool false,.slice none 0 0,.int .i64 0,.bool false] 43)));generalize W1.alloc (.cells #[.bool false,.slice none 0 0,.int .i64 0,.bool false,.slice none 0 0,.int .i64 0,.bool false] 43)=W2 at *;refine wp_region_lit ?_;refine znY (n:=4) (e:=359) rfl rfl rfl HKP2.out (by kernel_rfl) (by kernel_rfl) ?_;have HH1:=Zh (fun W (hb:Below W0.heap.size W0 W)=>h1.below (zAA hb0 hb));have HH2:=Zh (fun W (hb:Below W0.heap.size W0 W)=>h2.below (zAA hb0 hb));have HH3:=Zh (fun W (hb:Below W0.heap.size W0 W)=>h3.below (zAA hb0 hb));have HH4:=Zh (fun W (hb:Below W0.heap.size W0 W)=>h4.below (zAA hb0 hb));have HT:=Zh (fun W (hb:Below W0.heap.size W0 W)=>ht.next (zAA hb0 hb));have HX:=Zh hx;have HY:=Zh hy;have HB0:=Zh hb0;have HKR:=Zh kr;have hzr:=kr.lt;clear HKP HKP2 hW1 hW1s h1 h2 h3 h4 hx hy ht hb0 ka kb kr;have eg1:∀args W,(callFunc 298 args).run Tryz.prog W=.ok (.enter 298 args) W:=zCQ Tryz.func298 (by kernel_rfl) rfl;have eg2:∀args W,(callFunc 299 args).run Tryz.prog W=.ok (.enter 299 args) W:=zCQ Tryz.func299 (by kernel_rfl) rfl;go_wp2_with fail
 go_loopw [41] (fun i wr=>∃ (k:Nat) (o:Iv) (A3 B3:Option Addr) (n3 c3 m3 d3:Nat),k<=4/\i=.int .i64 k/\Hid (f4s p x y k=some o/\Bd o.lo/\Bd o.hi/\o.all=false)/\Hid (Blk wr (W0.heap.size+1) 43 #[.bool o.lo.neg,.slice A3 n3 c3,.int .i64 o.lo.e,.bool o.hi.neg,.slice B3 m3 d3,.int .i64 o.hi.e,.bool false])/\Hid (SL wr A3 n3 c3 o.lo.l/\SL wr B3 m3 d3 o.hi.l)/\Hid (zAn w.heap.size A3 n3/\zAn w.heap.size B3 m3)/\Hid (Below W0.heap.size W0 wr)) (fun i _=>4 - (intOf i).toNat)
 case atStart=>exact ⟨0,⟨zAZ,zAZ,false⟩,none,none,0,0,0,0,by omega,rfl,⟨rfl,by simp [Bd,zAZ],by simp [Bd,zAZ],rfl⟩,HKO.out,⟨SL.nil _,SL.nil _⟩,⟨zAn.zero,zAn.zero⟩,HB2.out⟩
 case round=>
  obtain ⟨k,o,A3,B3,n3,c3,m3,d3,hk,rfl,HO,HG,HS,HFo,HB⟩:=hrel;by_cases hlt:k<4
  ·go_upto_region 5 with fail
   go_cut [13,14] (fun s13 s14 wx=>s13=.int .i64 k/\∃ (a b:Dy) (Aa Ab:Option Addr) (na ca nb cb:Nat),s14=.pointer (some ⟨wr.heap.size,0,none⟩)/\Blk wx wr.heap.size 359 #[.bool a.neg,.slice Aa na ca,.int .i64 a.e,.bool b.neg,.slice Ab nb cb,.int .i64 b.e]/\(prs x y)[k]? = some (a,b)/\(Bd a/\Bd b)/\SL wx Aa na ca a.l/\SL wx Ab nb cb b.l/\Below wr.heap.size wr wx)
   case first=>
    have hw4:k=0\/k=1\/k=2\/k=3:=by omega
    rcases hw4 with rfl | rfl | rfl | rfl
    ·have hix:∀W,(Instr.index 360 (.agg #[.bool x.lo.neg,.slice A1 n1 c1,.int .i64 x.lo.e,.bool y.lo.neg,.slice A2 n2 c2,.int .i64 y.lo.e,.bool x.lo.neg,.slice A1 n1 c1,.int .i64 x.lo.e,.bool y.hi.neg,.slice B2 m2 d2,.int .i64 y.hi.e,.bool x.hi.neg,.slice B1 m1 d1,.int .i64 x.hi.e,.bool y.lo.neg,.slice A2 n2 c2,.int .i64 y.lo.e,.bool x.hi.neg,.slice B1 m1 d1,.int .i64 x.hi.e,.bool y.hi.neg,.slice B2 m2 d2,.int .i64 y.hi.e]) (.int .i64 0)).run Tryz.prog W=.ok (.agg #[.bool x.lo.neg,.slice A1 n1 c1,.int .i64 x.lo.e,.bool y.lo.neg,.slice A2 n2 c2,.int .i64 y.lo.e]) W:=fun W=>by kernel_rfl
     go_wp2_with fail
     go_meet
     exact ⟨rfl,x.lo,y.lo,A1,A2,n1,c1,n2,c2,rfl,Blk.new _ _ _,rfl,⟨HX.out.1,HY.out.1⟩,(HH1.out _ HB.out).below (zAE _ _),(HH3.out _ HB.out).below (zAE _ _),zAE _ _⟩
    ·have hix:∀W,(Instr.index 360 (.agg #[.bool x.lo.neg,.slice A1 n1 c1,.int .i64 x.lo.e,.bool y.lo.neg,.slice A2 n2 c2,.int .i64 y.lo.e,.bool x.lo.neg,.slice A1 n1 c1,.int .i64 x.lo.e,.bool y.hi.neg,.slice B2 m2 d2,.int .i64 y.hi.e,.bool x.hi.neg,.slice B1 m1 d1,.int .i64 x.hi.e,.bool y.lo.neg,.slice A2 n2 c2,.int .i64 y.lo.e,.bool x.hi.neg,.slice B1 m1 d1,.int .i64 x.hi.e,.bool y.hi.neg,.slice B2 m2 d2,.int .i64 y.hi.e]) (.int .i64 1)).run Tryz.prog W=.ok (.agg #[.bool x.lo.neg,.slice A1 n1 c1,.int .i64 x.lo.e,.bool y.hi.neg,.slice B2 m2 d2,.int .i64 y.hi.e]) W:=fun W=>by kernel_rfl
     go_wp2_with fail
     go_meet
     exact ⟨rfl,x.lo,y.hi,A1,B2,n1,c1,m2,d2,rfl,Blk.new _ _ _,rfl,⟨HX.out.1,HY.out.2⟩,(HH1.out _ HB.out).below (zAE _ _),(HH4.out _ HB.out).below (zAE _ _),zAE _ _⟩
    ·have hix:∀W,(Instr.index 360 (.agg #[.bool x.lo.neg,.slice A1 n1 c1,.int .i64 x.lo.e,.bool y.lo.neg,.slice A2 n2 c2,.int .i64 y.lo.e,.bool x.lo.neg,.slice A1 n1 c1,.int .i64 x.lo.e,.bool y.hi.neg,.slice B2 m2 d2,.int .i64 y.hi.e,.bool x.hi.neg,.slice B1 m1 d1,.int .i64 x.hi.e,.bool y.lo.neg,.slice A2 n2 c2,.int .i64 y.lo.e,.bool x.hi.neg,.slice B1 m1 d1,.int .i64 x.hi.e,.bool y.hi.neg,.slice B2 m2 d2,.int .i64 y.hi.e]) (.int .i64 2)).run Tryz.prog W=.ok (.agg #[.bool x.hi.neg,.slice B1 m1 d1,.int .i64 x.hi.e,.bool y.lo.neg,.slice A2 n2 c2,.int .i64 y.lo.e]) W:=fun W=>by kernel_rfl
     go_wp2_with fail
     go_meet
     exact ⟨rfl,x.hi,y.lo,B1,A2,m1,d1,n2,c2,rfl,Blk.new _ _ _,rfl,⟨HX.out.2,HY.out.1⟩,(HH2.out _ HB.out).below (zAE _ _),(HH3.out _ HB.out).below (zAE _ _),zAE _ _⟩
    ·have hix:∀W,(Instr.index 360 (.agg #[.bool x.lo.neg,.slice A1 n1 c1,.int .i64 x.lo.e,.bool y.lo.neg,.slice A2 n2 c2,.int .i64 y.lo.e,.bool x.lo.neg,.slice A1 n1 c1,.int .i64 x.lo.e,.bool y.hi.neg,.slice B2 m2 d2,.int .i64 y.hi.e,.bool x.hi.neg,.slice B1 m1 d1,.int .i64 x.hi.e,.bool y.lo.neg,.slice A2 n2 c2,.int .i64 y.lo.e,.bool x.hi.neg,.slice B1 m1 d1,.int .i64 x.hi.e,.bool y.hi.neg,.slice B2 m2 d2,.int .i64 y.hi.e]) (.int .i64 3)).run Tryz.prog W=.ok (.agg #[.bool x.hi.neg,.slice B1 m1 d1,.int .i64 x.hi.e,.bool y.hi.neg,.slice B2 m2 d2,.int .i64 y.hi.e]) W:=fun W=>by kernel_rfl
     go_wp2_with fail
     go_meet
     exact ⟨rfl,x.hi,y.hi,B1,B2,m1,d1,m2,d2,rfl,Blk.new _ _ _,rfl,⟨HX.out.2,HY.out.2⟩,(HH2.out _ HB.out).below (zAE _ _),(HH4.out _ HB.out).below (zAE _ _),zAE _ _⟩
   case rest=>
    obtain ⟨rfl,a,b,Aa,Ab,na,ca,nb,cb,rfl,hkp,hpr,hbd,hsa,hsb,hbx⟩:=hcut;have HBc:=Zh (zAA HB.out hbx);have HKO:=Zh (HG.out.next hbx);have HSo:=Zh (And.intro (HS.out.1.below hbx) (HS.out.2.below hbx));have hna:na<=1000:=by have:=hsa.len;have:=hbd.1;unfold Bd at this;omega
    have hnb:nb<=1000:=by have:=hsb.len;have:=hbd.2;unfold Bd at this;omega
    have HLO:=Zh (zne a.neg b.neg Aa Ab na ca nb cb a.l b.l a.e b.e p wc hsa hsb hna hnb (HT.out _ HBc.out));have HHI:=Zh (fun W (hb:Below wc.heap.size wc W)=>znz a.neg b.neg Aa Ab na ca nb cb a.l b.l a.e b.e p W (hsa.below hb) (hsb.below hb) hna hnb (HT.out _ (zAA HBc.out hb)));have HF4:Hid (f4s p x y (k+1)=f4 p k o (a,b)):=by unfold Hid;rw [f4s,HO.out.1,hpr]
    have HF:Hid (f4 p k o (a,b)=if (znO a b p false).2=0/\(znO a b p true).2=0 then some ⟨if k=0\/zCH (znO a b p false).1 o.lo<0 then (znO a b p false).1 else o.lo,if k=0\/0<zCH (znO a b p true).1 o.hi then (znO a b p true).1 else o.hi,false⟩ else none):=rfl;have HBD:=Zh (And.intro (znn a b p false) (znn a b p true))
    change Hid (Calls _ _ _ _ (zol (znO a b p false) wc)) at HLO
    change Hid (∀W,Below wc.heap.size wc W->Calls _ _ _ _ (zol (znO a b p true) W)) at HHI
    generalize znO a b p false=LO at *;generalize znO a b p true=HI at *;obtain ⟨lo,le⟩:=LO;obtain ⟨hi,he⟩:=HI;dsimp only at HF HBD;have HKP:=Zh hkp;have hzw:=HB.out.size;obtain ⟨t0,t1,t2,t3,t4,t5⟩:=hkp.cells6;clear HG HS hkp hpr hbd hsa hsb hbx hna hnb;go_wp2_with fail
    refine HLO.out.mono ?_;rintro e2 w5 ⟨A5,n5,c5,rfl,hs5,hb5⟩
    have hx5:=zAE w5 (.cells #[.bool lo.neg,.slice A5 n5 c5,.int .i64 lo.e] 41);have HKL:=Zh (Blk.new w5 41 #[.bool lo.neg,.slice A5 n5 c5,.int .i64 lo.e]);have HS5:=Zh (hs5.1.below hx5);have HF5:=Zh (hs5.2.mono (show w.heap.size<=_ from (zAA HB0.out HBc.out).size));have HB5:=Zh (zAA hb5 hx5);have hz5:W0.heap.size+1<w5.heap.size:=by have:=hb5.size;have:=HKO.out.lt;omega
    clear HLO hs5 hb5 hx5 t0 t1 t2 t3 t4 t5;go_upto_region 7 with fail
    have hg5:w5.heap.size<(w5.alloc (.cells #[.bool lo.neg,.slice A5 n5 c5,.int .i64 lo.e] 41)).heap.size:=by simp
    generalize w5.alloc (.cells #[.bool lo.neg,.slice A5 n5 c5,.int .i64 lo.e] 41)=W5 at *;obtain ⟨t0,t1,t2,t3,t4,t5⟩:=(HKP.out.next HB5.out).cells6;go_wp2_with fail
    refine (HHI.out _ HB5.out).mono ?_;rintro e2 w6 ⟨A6,n6,c6,rfl,hs6,hb6⟩
    have hx6:=zAE w6 (.cells #[.bool hi.neg,.slice A6 n6 c6,.int .i64 hi.e] 41);have HKH:=Zh (Blk.new w6 41 #[.bool hi.neg,.slice A6 n6 c6,.int .i64 hi.e]);have HS6:=Zh (hs6.1.below hx6);have HF6:=Zh (hs6.2.mono (show w.heap.size<=_ from (zAA HB0.out (zAA HBc.out HB5.out)).size));have HKL6:=Zh (HKL.out.next (zAA hb6 hx6));have HS56:=Zh (HS5.out.below (zAA hb6 hx6));have HB6:=Zh (zAA HBc.out (zAA HB5.out (zAA hb6 hx6)));have HKO6:=Zh (HKO.out.next (zAA HB5.out (zAA hb6 hx6)));have HSo6:=Zh (And.intro (HSo.out.1.below (zAA HB5.out (zAA hb6 hx6))) (HSo.out.2.below (zAA HB5.out (zAA hb6 hx6))));have hz6:w5.heap.size<w6.heap.size:=Yh hg5 hb6.size;clear HHI hs6 hb6 hx6 t0 t1 t2 t3 t4 t5 HKL HS5 HKO HSo HKP;go_upto_region 8 with fail
    generalize w6.alloc (.cells #[.bool hi.neg,.slice A6 n6 c6,.int .i64 hi.e] 41)=W6 at *;by_cases hle:le=0
    ·subst hle
     by_cases hhe:he=0
     ·subst hhe
      have HF2:Hid (f4s p x y (k+1)=some ⟨if k=0\/zCH lo o.lo<0 then lo else o.lo,if k=0\/0<zCH hi o.hi then hi else o.hi,false⟩):=by unfold Hid;rw [HF4.out,HF.out,if_pos ⟨rfl,rfl⟩]
      have HC1:=Zh (fun W (hb:Below W6.heap.size W6 W)=>zLb lo.neg o.lo.neg A5 A3 n5 c5 n3 c3 lo.l o.lo.l lo.e o.lo.e W (HS56.out.below hb) (HSo6.out.1.below hb) (by have:=HS56.out.len;have:=HBD.out.1;unfold Bd at this;omega) (by have:=HSo6.out.1.len;have:=HO.out.2.1;unfold Bd at this;omega));have HC2:Hid (∀W,SL W A6 n6 c6 hi.l->SL W B3 m3 d3 o.hi.l->Calls Tryz.prog 25 #[.agg #[.bool hi.neg,.slice A6 n6 c6,.int .i64 hi.e],.agg #[.bool o.hi.neg,.slice B3 m3 d3,.int .i64 o.hi.e]] W fun e w'=>e=.returned (.int .i64 (zCH hi o.hi))/\Below W.heap.size W w'):=fun W h1 h2=>zLb hi.neg o.hi.neg A6 B3 n6 c6 m3 d3 hi.l o.hi.l hi.e o.hi.e W h1 h2 (by have:=h1.len;have:=HBD.out.2;unfold Bd at this;omega) (by have:=h2.len;have:=HO.out.2.2.1;unfold Bd at this;omega)
      change Hid (∀W,Below W6.heap.size W6 W->Calls _ _ _ W (fun e w'=>e=.returned (.int .i64 (zCH lo o.lo))/\Below W.heap.size W w')) at HC1
      have HNL:Hid (Bd (if k=0\/zCH lo o.lo<0 then lo else o.lo)/\Bd (if k=0\/0<zCH hi o.hi then hi else o.hi)):=⟨by split;exact HBD.out.1;exact HO.out.2.1,by split;exact HBD.out.2;exact HO.out.2.2.1⟩;have HV1:Hid (∀b:Bool,b=decide (k=0\/zCH lo o.lo<0)->(if k=0\/zCH lo o.lo<0 then lo else o.lo)=if b=true then lo else o.lo):=by rintro b rfl;simp only [Xb]
      have HV2:Hid (∀b:Bool,b=decide (k=0\/0<zCH hi o.hi)->(if k=0\/0<zCH hi o.hi then hi else o.hi)=if b=true then hi else o.hi):=by rintro b rfl;simp only [Xb]
      generalize (if k=0\/zCH lo o.lo<0 then lo else o.lo)=nl at *;generalize (if k=0\/0<zCH hi o.hi then hi else o.hi)=nh at *;generalize zCH lo o.lo=r1 at *;generalize zCH hi o.hi=r2 at *;clear HF4 HF HBD;go_upto_region 10 with fail
      go_cut [80] (fun s80 wx=>s80=.bool (decide (k=0\/r1<0))/\Below W6.heap.size W6 wx)
      case first=>
       by_cases hk0:k=0
       ·have hk2:((k:Int) == 0)=true:=by simp [hk0]
        go_wp2_with fail
        go_meet
        exact ⟨by simp [hk0],Yp _ _⟩
       ·have hk2:((k:Int) == 0)=false:=by simp [hk0]
        obtain ⟨l0,l1,l2⟩:=HKL6.out.cells3;obtain ⟨x0,x1,x2,x3,x4,x5,x6⟩:=HKO6.out.cells7;go_wp2_with fail
        refine (HC1.out _ (Yp _ _)).mono ?_;rintro e2 w7 ⟨rfl,hb7⟩
        clear l0 l1 l2 x0 x1 x2 x3 x4 x5 x6;go_wp2_with fail
        go_meet
        exact ⟨by simp [hk0],hb7⟩
      case rest=>
       obtain ⟨rfl,hb7⟩:=hcut;have HKO7:=Zh (HKO6.out.next hb7);have HKL7:=Zh (HKL6.out.next hb7);have HKH7:=Zh (HKH.out.next hb7);have HS7:=Zh (And.intro (HS56.out.below hb7) (HS6.out.below hb7));have HSo7:=Zh (And.intro (HSo6.out.1.below hb7) (HSo6.out.2.below hb7));have HB7:=Zh (zAA HB6.out hb7);obtain ⟨b1,hb1⟩:∃b,b=decide (k=0\/r1<0):=⟨_,rfl⟩;have HNL1:=Zh (HV1.out b1 hb1);rw [<- hb1];clear hb7 HKO6 HKL6 HS56 HSo6 HB6 HC1 HV1 hb1 HKH HS6
       go_upto_if 80 with fail
       go_cut [16] (fun s16 wx=>s16=.int .i64 0/\∃ (A7:Option Addr) (n7 c7:Nat),Blk wx (W0.heap.size+1) 43 #[.bool nl.neg,.slice A7 n7 c7,.int .i64 nl.e,.bool o.hi.neg,.slice B3 m3 d3,.int .i64 o.hi.e,.bool false]/\(SL wx A7 n7 c7 nl.l/\zAn w.heap.size A7 n7)/\SL wx A6 n6 c6 hi.l/\SL wx B3 m3 d3 o.hi.l/\Blk wx w6.heap.size 41 #[.bool hi.neg,.slice A6 n6 c6,.int .i64 hi.e]/\Below W0.heap.size W0 wx)
       case first=>
        cases b1
        ·have hnl:nl=o.lo:=by rw [HNL1.out];rfl
         subst hnl;go_wp2_with fail
         go_meet
         exact ⟨rfl,A3,n3,c3,HKO7.out,⟨HSo7.out.1,HFo.out.1⟩,HS7.out.2,HSo7.out.2,HKH7.out,HB7.out⟩
        ·have hnl:nl=lo:=by rw [HNL1.out];rfl
         subst hnl;obtain ⟨l0,l1,l2⟩:=HKL7.out.cells3;obtain ⟨x0,x1,x2,x3,x4,x5,x6⟩:=HKO7.out.cells7;have f0:=HKO7.out.frozen 0;have f1:=HKO7.out.frozen 1;have f2:=HKO7.out.frozen 2;have ha1:=HS7.out.1.away HKO7.out (znA _ _ _ _ _ _ _ _ _ _ _);have ha2:=HS7.out.2.away HKO7.out (znA _ _ _ _ _ _ _ _ _ _ _);have ha3:=HSo7.out.2.away HKO7.out (znA _ _ _ _ _ _ _ _ _ _ _);have HA:=Zh (And.intro ha1 (And.intro ha2 ha3));clear ha1 ha2 ha3;go_wp2_with fail
         go_meet
         exact ⟨rfl,A5,n5,c5,HKO7.out.set7a _ _ _,⟨HS7.out.1.past3 HA.out.1 0 _ _ _,HF5.out⟩,HS7.out.2.past3 HA.out.2.1 0 _ _ _,HSo7.out.2.past3 HA.out.2.2 0 _ _ _,HKH7.out.far3 (by omega) 0 _ _ _,znU HB7.out (by omega) 0 _ _ _⟩
       case rest=>
        obtain ⟨rfl,A7,n7,c7,hko,⟨hs7,hf7⟩,hs6,hs3,hkh,hb8⟩:=hcut;have HF7:=Zh hf7;clear hf7;have HKO8:=Zh hko;have HKH8:=Zh hkh;have HS8:=Zh (And.intro hs7 (And.intro hs6 hs3));have HB8:=Zh hb8;clear HKO7 HKL7 HKH7 HS7 HSo7 HB7 HNL1 hko hkh hs7 hs6 hs3 hb8;go_upto_region 12 with fail
        go_cut [91] (fun s91 wx=>s91=.bool (decide (k=0\/0<r2))/\Below wc.heap.size wc wx)
        case first=>
         by_cases hk0:k=0
         ·have hk2:((k:Int) == 0)=true:=by simp [hk0]
          go_wp2_with fail
          go_meet
          exact ⟨by simp [hk0],Yp _ _⟩
         ·have hk2:((k:Int) == 0)=false:=by simp [hk0]
          obtain ⟨l0,l1,l2⟩:=HKH8.out.cells3;obtain ⟨x0,x1,x2,x3,x4,x5,x6⟩:=HKO8.out.cells7;go_wp2_with fail
          refine (HC2.out _ HS8.out.2.1 HS8.out.2.2).mono ?_;rintro e2 w7 ⟨rfl,hb7⟩
          clear l0 l1 l2 x0 x1 x2 x3 x4 x5 x6;go_wp2_with fail
          go_meet
          exact ⟨by simp [hk0],hb7⟩
        case rest=>
         obtain ⟨rfl,hb9⟩:=hcut;have HKO9:=Zh (HKO8.out.next hb9);have HKH9:=Zh (HKH8.out.next hb9);have HS9:=Zh (And.intro (HS8.out.1.below hb9) (And.intro (HS8.out.2.1.below hb9) (HS8.out.2.2.below hb9)));have HB9:=Zh (zAA HB8.out hb9);obtain ⟨b2,hb2⟩:∃b,b=decide (k=0\/0<r2):=⟨_,rfl⟩;have HNL2:=Zh (HV2.out b2 hb2);rw [<- hb2];clear hb9 HKO8 HKH8 HS8 HB8 HC2 HV2 hb2
         go_upto_if 91 with fail
         cases b2
         ·have hnl:nh=o.hi:=by rw [HNL2.out];rfl
          subst hnl;go_wp2_with fail
          go_roundw
          case rel=>exact ⟨k+1,⟨nl,o.hi,false⟩,A7,B3,n7,c7,m3,d3,by omega,by go_num,⟨HF2.out,HNL.out.1,HNL.out.2,rfl⟩,HKO9.out,⟨HS9.out.1,HS9.out.2.2⟩,⟨HF7.out,HFo.out.2⟩,HB9.out⟩
          case measure=>simp [intOf];omega
         ·have hnl:nh=hi:=by rw [HNL2.out];rfl
          subst hnl;obtain ⟨l0,l1,l2⟩:=HKH9.out.cells3;obtain ⟨x0,x1,x2,x3,x4,x5,x6⟩:=HKO9.out.cells7;have f3:=HKO9.out.frozen 3;have f4:=HKO9.out.frozen 4;have f5:=HKO9.out.frozen 5;have ha1:=HS9.out.1.away HKO9.out (znA _ _ _ _ _ _ _ _ _ _ _);have ha2:=HS9.out.2.1.away HKO9.out (znA _ _ _ _ _ _ _ _ _ _ _);have HA:=Zh (And.intro ha1 ha2);clear ha1 ha2;go_wp2_with fail
          go_roundw
          case rel=>exact ⟨k+1,⟨nl,nh,false⟩,A7,A6,n7,c7,n6,c6,by omega,by go_num,⟨HF2.out,HNL.out.1,HNL.out.2,rfl⟩,HKO9.out.set7b _ _ _,⟨HS9.out.1.past3 HA.out.1 3 _ _ _,HS9.out.2.1.past3 HA.out.2 3 _ _ _⟩,⟨HF7.out,HF6.out⟩,znU HB9.out (by omega) 3 _ _ _⟩
          case measure=>simp [intOf];omega
     ·have hhe2:(he != 0)=true:=by simpa using hhe
      have HN:Hid (f4s p x y 4=none):=by
       have h1:f4s p x y (k+1)=none:=by rw [HF4.out,HF.out,if_neg (fun h=>hhe h.2)]
       have h2:=zoQ h1 (3 - k)
       rwa [show k+1+(3 - k)=4 from by omega] at h2
      go_wp2_with fail
      refine (zlc w.heap.size _).mono ?_;rintro e2 w7 ⟨A7,n7,c7,B7,m7,q7,rfl,hs7,hs8,hff,hb7⟩
      have HFF:=Zh hff;have kr:=HKR.out.next (zAA HB6.out hb7);obtain ⟨r0,r1,r2,r3,r4,r5,r6⟩:=kr.cells7;have f0:=kr.frozen 0;have f1:=kr.frozen 1;have f2:=kr.frozen 2;have f3:=kr.frozen 3;have f4:=kr.frozen 4;have f5:=kr.frozen 5;have f6:=kr.frozen 6;have HKR2:=Zh kr;clear kr;have HB7:=Zh (zAA HB0.out (zAA HB6.out hb7));have HS7:=Zh hs7;have HS8:=Zh hs8;clear hs7 hs8 hb7 hff;go_wp2_with fail
      rw [HN.out];exact znL (x:=whl) Tryz.results297 HKR2.out HS7.out HS8.out HFF.out HB7.out (by omega) rfl
    ·have hle2:(le != 0)=true:=by simpa using hle
     have HN:Hid (f4s p x y 4=none):=by
      have h1:f4s p x y (k+1)=none:=by rw [HF4.out,HF.out,if_neg (fun h=>hle h.1)]
      have h2:=zoQ h1 (3 - k)
      rwa [show k+1+(3 - k)=4 from by omega] at h2
     go_wp2_with fail
     refine (zlc w.heap.size _).mono ?_;rintro e2 w7 ⟨A7,n7,c7,B7,m7,q7,rfl,hs7,hs8,hff,hb7⟩
     have HFF:=Zh hff;have kr:=HKR.out.next (zAA HB6.out hb7);obtain ⟨r0,r1,r2,r3,r4,r5,r6⟩:=kr.cells7;have f0:=kr.frozen 0;have f1:=kr.frozen 1;have f2:=kr.frozen 2;have f3:=kr.frozen 3;have f4:=kr.frozen 4;have f5:=kr.frozen 5;have f6:=kr.frozen 6;have HKR2:=Zh kr;clear kr;have HB7:=Zh (zAA HB0.out (zAA HB6.out hb7));have HS7:=Zh hs7;have HS8:=Zh hs8;clear hs7 hs8 hb7 hff;go_wp2_with fail
     rw [HN.out];exact znL (x:=whl) Tryz.results297 HKR2.out HS7.out HS8.out HFF.out HB7.out (by omega) rfl
  ·obtain rfl:k=4:=by omega
   have hoe:o=⟨o.lo,o.hi,false⟩:=by
    obtain ⟨u,v,z⟩:=o;have:=HO.out.2.2.2;dsimp only at this;subst this;rfl
   have HN:Hid (f4s p x y 4=some ⟨o.lo,o.hi,false⟩):=by unfold Hid;rw [<- hoe];exact HO.out.1
   obtain ⟨x0,x1,x2,x3,x4,x5,x6⟩:=HG.out.cells7;have kr:=HKR.out.next HB.out;obtain ⟨r0,r1,r2,r3,r4,r5,r6⟩:=kr.cells7;have f0:=kr.frozen 0;have f1:=kr.frozen 1;have f2:=kr.frozen 2;have f3:=kr.frozen 3;have f4:=kr.frozen 4;have f5:=kr.frozen 5;have f6:=kr.frozen 6;have HKR2:=Zh kr;clear kr;clear hoe;go_wp2_with fail
   rw [HN.out];exact znL (x:=⟨o.lo,o.hi,false⟩) Tryz.results297 HKR2.out HS.out.1 HS.out.2 HFo.out (zAA HB0.out HB.out) (by omega) rfl
theorem zoS (x y:Iv) (p:Int) (A1 B1 A2 B2:Option Addr) (n1 c1 m1 d1 n2 c2 m2 d2:Nat) (w:World) (h1:SL w A1 n1 c1 x.lo.l) (h2:SL w B1 m1 d1 x.hi.l) (h3:SL w A2 n2 c2 y.lo.l) (h4:SL w B2 m2 d2 y.hi.l) (hx:BdI x) (hy:BdI y) (ht:zBx w) :
  Calls Tryz.prog 232 #[.agg #[.bool x.lo.neg,.slice A1 n1 c1,.int .i64 x.lo.e,.bool x.hi.neg,.slice B1 m1 d1,.int .i64 x.hi.e,.bool x.all],.agg #[.bool y.lo.neg,.slice A2 n2 c2,.int .i64 y.lo.e,.bool y.hi.neg,.slice B2 m2 d2,.int .i64 y.hi.e,.bool y.all],.int .i64 p] w (zpF w.heap.size (zoT x y p) w):=by
 obtain ⟨W0,eW,hb0,ka,kb,kr,kl⟩:=al4 w #[.bool x.lo.neg,.slice A1 n1 c1,.int .i64 x.lo.e,.bool x.hi.neg,.slice B1 m1 d1,.int .i64 x.hi.e,.bool x.all] 43 #[.bool y.lo.neg,.slice A2 n2 c2,.int .i64 y.lo.e,.bool y.hi.neg,.slice B2 m2 d2,.int .i64 y.hi.e,.bool y.all] 43 #[.bool false,.slice none 0 0,.int .i64 0,.bool false,.slice none 0 0,.int .i64 0,.bool false] 43 #[.bool x.lo.neg,.slice A1 n1 c1,.int .i64 x.lo.e,.bool x.hi.neg,.slice B1 m1 d1,.int .i64 x.hi.e,.bool x.all,.bool y.lo.neg,.slice A2 n2 c2,.int .i64 y.lo.e,.bool y.hi.neg,.slice B2 m2 d2,.int .i64 y.hi.e,.bool y.all] 43;obtain ⟨p0,p1,p2,p3,p4,p5,p6⟩:=ka.cells7;obtain ⟨q0,q1,q2,q3,q4,q5,q6⟩:=kb.cells7;have HFO:=Zh (fun W (hb:Below w.heap.size w W)=>zoz x y p A1 B1 A2 B2 n1 c1 m1 d1 n2 c2 m2 d2 W (h1.below hb) (h2.below hb) (h3.below hb) (h4.below hb) hx hy (ht.next hb));have HKN:=Zh (zng (some ⟨w.heap.size+1+1+1,0,none⟩) 2 2 [x,y] _ (zqD kl (h1.below hb0) (h2.below hb0) (h3.below hb0) (h4.below hb0)) (by omega) (by intro z hz;rcases List.mem_cons.1 hz with rfl | hz;exact hx;rw [List.mem_singleton.1 hz];exact hy));have HV:Hid (zoT x y p=if (knw [x,y] && znB p)=true then (f4s p x y 4).getD whl else whl):=rfl;have HPR:=Zh (fun W=>znG p W);generalize zoT x y p=PP at *;generalize (f4s p x y 4).getD whl=QQ at *;clear h1 h2 h3 h4 hx hy ht;go_enter Tryz.func232,Tryz.ntmps232
 go_wp2_with fail
 clear eW;clear p0 p1 p2 p3 p4 p5 p6 q0 q1 q2 q3 q4 q5 q6;have HB0:=Zh hb0;have HKA:=Zh ka;have HKB:=Zh kb;have HKR:=Zh kr;clear ka kb kr kl hb0;refine HKN.out.mono ?_;rintro e w1 ⟨rfl,hb1⟩
 have HB1:=Zh hb1;clear hb1 HKN;cases hk:knw [x,y]
 ·have HV2:Hid (PP=whl):=by unfold Hid;rw [HV.out,hk];rfl
  clear HFO HV hk;go_wp2_with fail
  refine (zlc w.heap.size _).mono ?_;rintro e2 w2 ⟨A3,n3,c3,B3,m3,q3,rfl,hs3,hs4,hff,hb3⟩
  have HFF:=Zh hff;have kr:=HKR.out.next (zAA HB1.out hb3);obtain ⟨r0,r1,r2,r3,r4,r5,r6⟩:=kr.cells7;have f0:=kr.frozen 0;have f1:=kr.frozen 1;have f2:=kr.frozen 2;have f3:=kr.frozen 3;have f4:=kr.frozen 4;have f5:=kr.frozen 5;have f6:=kr.frozen 6;have HKR2:=Zh kr;clear kr;have HB3:=Zh (zAA HB0.out (zAA HB1.out hb3));have HS3:=Zh hs3;have HS4:=Zh hs4;clear hs3 hs4 hb3 hff;go_wp2_with fail
  rw [HV2.out];exact znL Tryz.results232 HKR2.out HS3.out HS4.out HFF.out HB3.out (by omega) rfl
 ·cases hp:znB p
  ·have HV2:Hid (PP=whl):=by unfold Hid;rw [HV.out,hk,hp];rfl
   rw [hp] at HPR;clear HFO HV hk hp;go_wp2_with fail
   refine (HPR.out w1).mono ?_;rintro e w9 ⟨rfl,rfl⟩
   go_wp2_with fail
   refine (zlc w.heap.size _).mono ?_;rintro e2 w2 ⟨A3,n3,c3,B3,m3,q3,rfl,hs3,hs4,hff,hb3⟩
   have HFF:=Zh hff;have kr:=HKR.out.next (zAA HB1.out hb3);obtain ⟨r0,r1,r2,r3,r4,r5,r6⟩:=kr.cells7;have f0:=kr.frozen 0;have f1:=kr.frozen 1;have f2:=kr.frozen 2;have f3:=kr.frozen 3;have f4:=kr.frozen 4;have f5:=kr.frozen 5;have f6:=kr.frozen 6;have HKR2:=Zh kr;clear kr;have HB3:=Zh (zAA HB0.out (zAA HB1.out hb3));have HS3:=Zh hs3;have HS4:=Zh hs4;clear hs3 hs4 hb3 hff;go_wp2_with fail
   rw [HV2.out];exact znL Tryz.results232 HKR2.out HS3.out HS4.out HFF.out HB3.out (by omega) rfl
  ·have HV2:Hid (PP=QQ):=by unfold Hid;rw [HV.out,hk,hp];rfl
   rw [hp] at HPR;clear HV hk hp;go_wp2_with fail
   refine (HPR.out w1).mono ?_;rintro e w9 ⟨rfl,rfl⟩
   obtain ⟨p0,p1,p2,p3,p4,p5,p6⟩:=(HKA.out.next HB1.out).cells7;obtain ⟨q0,q1,q2,q3,q4,q5,q6⟩:=(HKB.out.next HB1.out).cells7;go_wp2_with fail
   refine (HFO.out _ (zAA HB0.out HB1.out)).mono ?_;rintro e w4 ⟨A5,n5,c5,B5,m5,d5,rfl,hs5,hs6,hff,hb4⟩
   have HFF:=Zh (And.intro (hff.1.mono (show w.heap.size<=_ from (zAA HB0.out HB1.out).size)) (hff.2.mono (show w.heap.size<=_ from (zAA HB0.out HB1.out).size)));clear p0 p1 p2 p3 p4 p5 p6 q0 q1 q2 q3 q4 q5 q6;have kr:=HKR.out.next (zAA HB1.out hb4);obtain ⟨r0,r1,r2,r3,r4,r5,r6⟩:=kr.cells7;have f0:=kr.frozen 0;have f1:=kr.frozen 1;have f2:=kr.frozen 2;have f3:=kr.frozen 3;have f4:=kr.frozen 4;have f5:=kr.frozen 5;have f6:=kr.frozen 6;have HKR2:=Zh kr;clear kr;have HB5:=Zh (zAA HB0.out (zAA HB1.out hb4));have HS5:=Zh hs5;have HS6:=Zh hs6;clear hs5 hs6 hb4 hff;go_wp2_with fail
   rw [HV2.out];exact znL Tryz.results232 HKR2.out HS5.out HS6.out HFF.out HB5.out (by omega) rfl
theorem zpW (us:List Value) (d:Dy) (b3:Nat) (w:World) (hb:Blk w b3 89 #[(.func (.func 47) #[] #[])]) (h:RD w us d) (hd:Bd d) :
  Calls Tryz.prog 234 (#[.agg us.toArray]++#[.pointer (some ⟨b3,0,none⟩)]) w (zBW (!vld d) w):=by
 rw [show (#[.agg us.toArray]++#[.pointer (some ⟨b3,0,none⟩)]:Array Value)=#[.agg us.toArray,.pointer (some ⟨b3,0,none⟩)] from rfl];obtain ⟨A1,n1,c1,rfl,hs1⟩:=h;have hb0:=zAE w (.cells #[.bool d.neg,.slice A1 n1 c1,.int .i64 d.e] 41);have HC:=Zh (zEl [.bool d.neg,.slice A1 n1 c1,.int .i64 d.e] d _ (zAQ _ _ _ _ ⟨A1,n1,c1,rfl,hs1⟩ hb0) hd);have k0:=Blk.new w 41 #[.bool d.neg,.slice A1 n1 c1,.int .i64 d.e];obtain ⟨p0,p1,p2⟩:=k0.cells3;have f0:=(hb.next hb0).cell 0;simp only [List.getElem?_toArray,List.getElem?_cons_zero] at f0;have eg:∀args W,(callFunc 47 args).run Tryz.prog W=.ok (.enter 47 args) W:=zCQ Tryz.func47 (by kernel_rfl) rfl;clear k0 hs1 hd hb;go_enter Tryz.func234,Tryz.ntmps234
 go_wp2_with fail
 generalize w.alloc (.cells #[.bool d.neg,.slice A1 n1 c1,.int .i64 d.e] 41)=W0 at *;refine HC.out.mono ?_;rintro e w1 ⟨rfl,hb1⟩
 have hb2:=zAA hb0 hb1;generalize vld d=v at *;cases v
 all_goals
  go_wp2_with fail
  go_ret;exact ⟨rfl,hb2⟩
theorem zpo (q:Nat) (A:Option Addr) (n c:Nat) (r:List Dy) (b2 b3:Nat) (M:Option Addr) (mn mc:Nat) (m:List (List Dy)) (w:World) (h2:Blk w b2 23 #[.slice M mn mc]) (h3:Blk w b3 89 #[(.func (.func 47) #[] #[])]) (hm:Sl 1 RM w M mn mc m) (h:Sl 3 RD w A n c r)
  (h0:0<mn) (hq:∀r∈m,r.length=q) (hr:r.length=q) (ho:∀d∈r,vld d=true/\Bd d) :
  Calls Tryz.prog 233 (#[.slice A n c]++#[.pointer (some ⟨b2,0,none⟩),.pointer (some ⟨b3,0,none⟩)]) w (zBW false w):=by
 rw [show (#[.slice A n c]++#[.pointer (some ⟨b2,0,none⟩),.pointer (some ⟨b3,0,none⟩)]:Array Value)=#[.slice A n c,.pointer (some ⟨b2,0,none⟩),.pointer (some ⟨b3,0,none⟩)] from rfl];obtain ⟨b,off,r0,vs,rfl,hbl,hr0,hvk,hR,hc⟩:=hm.get h0;obtain ⟨A1,n1,c1,rfl,hs1⟩:=hR;have t0:=hc 0 _ rfl;rw [Nat.zero_mul,Nat.add_zero] at t0;have hn1:n1=n:=by rw [<- hs1.len,<- h.len,hr,hq r0 (Yk hr0)]
 subst hn1;have hcap:=h.cap;have hmax:=h.max;have hcap1:=hs1.cap;have hcapm:=hm.cap;have hmaxm:=hm.max;have HC:=Zh (zCA (fun d=>!vld d) 234 #[.pointer (some ⟨b3,0,none⟩)] A n1 c r w h (zCQ Tryz.func234 (by kernel_rfl) rfl) (fun W us d hb hm hr=>zpW us d b3 W (h3.next hb) hr (ho d hm).2));have hfalse:r.any (fun d=>!vld d)=false:=by
  rw [List.any_eq_false];intro d hd;rw [(ho d hd).1];exact Bool.false_ne_true
 rw [hfalse] at HC;have g0:=h2.cell 0;simp only [List.getElem?_toArray,List.getElem?_cons_zero] at g0;have hmf:∀ (fn:Fn) (first cap:Array Value) (w:World),(Instr.makeFunc fn first cap).run Tryz.prog w=.ok (.func fn first cap) w:=fun _ _ _ _=>rfl
 clear hm h hc hr0 hvk hs1 hq hr ho h2 h3 hfalse;go_enter Tryz.func233,Tryz.ntmps233
 go_wp2_with fail
 refine HC.out.mono ?_;rintro e w1 ⟨rfl,hb1⟩
 go_wp2_with fail
 go_ret;exact ⟨rfl,hb1⟩
theorem zp8 (q:Nat) (M:Option Addr) (mn mc:Nat) (m:List (List Dy)) (w:World) (hm:Sl 1 RM w M mn mc m) (h1:1<=mn) (h8:mn<=8) (hq1:1<=q) (hq8:q<=8) (hq:∀r∈m,r.length=q) (ho:∀r∈m,∀d∈r,vld d=true/\Bd d) :
  Calls Tryz.prog 160 #[.slice M mn mc,(.func (.func 47) #[] #[])] w (zBW true w):=by
 obtain ⟨b,off,r0,vs,rfl,hbl,hr0,hvk,hR,hc⟩:=hm.get h1;obtain ⟨A1,n1,c1,rfl,hs1⟩:=hR;have hn1:n1=q:=by rw [<- hs1.len,hq r0 (Yk hr0)]
 subst hn1;have hcap1:=hs1.cap;have hmax1:=hs1.max;have hcapm:=hm.cap;have hmaxm:=hm.max;obtain ⟨W0,eW,hb0,k2,k3⟩:=al2 w #[.slice (some ⟨b,off,none⟩) mn mc] 23 #[(.func (.func 47) #[] #[])] 89;have t1:=hc 0 _ rfl;rw [Nat.zero_mul,Nat.add_zero] at t1;have t0:=(hb0.cell (p:=⟨b,off,none⟩) hbl).trans t1;have g0:=k2.cell 0;simp only [List.getElem?_toArray,List.getElem?_cons_zero] at g0;have HC:=Zh (zCw (fun _=>false) 233 #[.pointer (some ⟨w.heap.size,0,none⟩),.pointer (some ⟨w.heap.size+1,0,none⟩)] _ mn mc m _ (hm.next zAh hb0) (zCQ Tryz.func233 (by kernel_rfl) rfl) (fun V us r hb2 hmem hr=>by
  obtain ⟨A2,n2,c2,rfl,hs2⟩:=hr;exact zpo n1 A2 n2 c2 r _ _ _ mn mc m V (k2.next hb2) (k3.next hb2) (hm.next zAh (zAA hb0 hb2)) hs2 h1 hq (hq r hmem) (ho r hmem)))
 have hmf:∀ (fn:Fn) (first cap:Array Value) (w:World),(Instr.makeFunc fn first cap).run Tryz.prog w=.ok (.func fn first cap) w:=fun _ _ _ _=>rfl
 have hfalse:m.any (fun _=>false)=false:=by simp
 rw [hfalse] at HC;clear hm hc hr0 hvk hs1 hq ho k2 k3 hfalse t1;go_enter Tryz.func160,Tryz.ntmps160
 go_wp2_with fail
 clear eW;refine HC.out.mono ?_;rintro e w1 ⟨rfl,hb1⟩
 go_wp2_with fail
 go_ret;exact ⟨rfl,zAA hb0 hb1⟩
theorem zpX (us:List Value) (d:Iv) (b3:Nat) (w:World) (hb:Blk w b3 92 #[(.func (.func 102) #[] #[])]) (h:RI w us d) (hd:BdI d) :
  Calls Tryz.prog 296 (#[.agg us.toArray]++#[.pointer (some ⟨b3,0,none⟩)]) w (zBW (!ivV d) w):=by
 rw [show (#[.agg us.toArray]++#[.pointer (some ⟨b3,0,none⟩)]:Array Value)=#[.agg us.toArray,.pointer (some ⟨b3,0,none⟩)] from rfl];obtain ⟨A1,n1,c1,B1,m1,d1,rfl,hs1,hs2⟩:=h;have hb0:=zAE w (.cells #[.bool d.lo.neg,.slice A1 n1 c1,.int .i64 d.lo.e,.bool d.hi.neg,.slice B1 m1 d1,.int .i64 d.hi.e,.bool d.all] 43);have HC:=Zh (zD9 [.bool d.lo.neg,.slice A1 n1 c1,.int .i64 d.lo.e,.bool d.hi.neg,.slice B1 m1 d1,.int .i64 d.hi.e,.bool d.all] d _ (zAX _ _ _ _ ⟨A1,n1,c1,B1,m1,d1,rfl,hs1,hs2⟩ hb0) hd);have k0:=Blk.new w 43 #[.bool d.lo.neg,.slice A1 n1 c1,.int .i64 d.lo.e,.bool d.hi.neg,.slice B1 m1 d1,.int .i64 d.hi.e,.bool d.all];obtain ⟨p0,p1,p2,p3,p4,p5,p6⟩:=k0.cells7;have f0:=(hb.next hb0).cell 0;simp only [List.getElem?_toArray,List.getElem?_cons_zero] at f0;have eg:∀args W,(callFunc 102 args).run Tryz.prog W=.ok (.enter 102 args) W:=zCQ Tryz.func102 (by kernel_rfl) rfl;clear k0 hs1 hd hb hs2;go_enter Tryz.func296,Tryz.ntmps296
 go_wp2_with fail
 generalize w.alloc (.cells #[.bool d.lo.neg,.slice A1 n1 c1,.int .i64 d.lo.e,.bool d.hi.neg,.slice B1 m1 d1,.int .i64 d.hi.e,.bool d.all] 43)=W0 at *;refine HC.out.mono ?_;rintro e w1 ⟨rfl,hb1⟩
 have hb2:=zAA hb0 hb1;generalize ivV d=v at *;cases v
 all_goals
  go_wp2_with fail
  go_ret;exact ⟨rfl,hb2⟩
theorem zpp (q:Nat) (A:Option Addr) (n c:Nat) (r:List Iv) (b2 b3:Nat) (M:Option Addr) (mn mc:Nat) (m:List (List Iv)) (w:World) (h2:Blk w b2 34 #[.slice M mn mc]) (h3:Blk w b3 92 #[(.func (.func 102) #[] #[])]) (hm:Sl 1 RB1 w M mn mc m) (h:Sl 7 RI w A n c r)
  (h0:0<mn) (hq:∀r∈m,r.length=q) (hr:r.length=q) (ho:∀d∈r,ivV d=true/\BdI d) :
  Calls Tryz.prog 295 (#[.slice A n c]++#[.pointer (some ⟨b2,0,none⟩),.pointer (some ⟨b3,0,none⟩)]) w (zBW false w):=by
 rw [show (#[.slice A n c]++#[.pointer (some ⟨b2,0,none⟩),.pointer (some ⟨b3,0,none⟩)]:Array Value)=#[.slice A n c,.pointer (some ⟨b2,0,none⟩),.pointer (some ⟨b3,0,none⟩)] from rfl];obtain ⟨b,off,r0,vs,rfl,hbl,hr0,hvk,hR,hc⟩:=hm.get h0;obtain ⟨A1,n1,c1,rfl,hs1⟩:=hR;have t0:=hc 0 _ rfl;rw [Nat.zero_mul,Nat.add_zero] at t0;have hn1:n1=n:=by rw [<- hs1.len,<- h.len,hr,hq r0 (Yk hr0)]
 subst hn1;have hcap:=h.cap;have hmax:=h.max;have hcap1:=hs1.cap;have hcapm:=hm.cap;have hmaxm:=hm.max;have HC:=Zh (zCv (fun d=>!ivV d) 296 #[.pointer (some ⟨b3,0,none⟩)] A n1 c r w h (zCQ Tryz.func296 (by kernel_rfl) rfl) (fun W us d hb hm hr=>zpX us d b3 W (h3.next hb) hr (ho d hm).2));have hfalse:r.any (fun d=>!ivV d)=false:=by
  rw [List.any_eq_false];intro d hd;rw [(ho d hd).1];exact Bool.false_ne_true
 rw [hfalse] at HC;have g0:=h2.cell 0;simp only [List.getElem?_toArray,List.getElem?_cons_zero] at g0;have hmf:∀ (fn:Fn) (first cap:Array Value) (w:World),(Instr.makeFunc fn first cap).run Tryz.prog w=.ok (.func fn first cap) w:=fun _ _ _ _=>rfl
 clear hm h hc hr0 hvk hs1 hq hr ho h2 h3 hfalse;go_enter Tryz.func295,Tryz.ntmps295
 go_wp2_with fail
 refine HC.out.mono ?_;rintro e w1 ⟨rfl,hb1⟩
 go_wp2_with fail
 go_ret;exact ⟨rfl,hb1⟩
theorem zp9 (q:Nat) (M:Option Addr) (mn mc:Nat) (m:List (List Iv)) (w:World) (hm:Sl 1 RB1 w M mn mc m) (h1:1<=mn) (h8:mn<=8) (hq1:1<=q) (hq8:q<=8) (hq:∀r∈m,r.length=q) (ho:∀r∈m,∀d∈r,ivV d=true/\BdI d) :
  Calls Tryz.prog 231 #[.slice M mn mc,(.func (.func 102) #[] #[])] w (zBW true w):=by
 obtain ⟨b,off,r0,vs,rfl,hbl,hr0,hvk,hR,hc⟩:=hm.get h1;obtain ⟨A1,n1,c1,rfl,hs1⟩:=hR;have hn1:n1=q:=by rw [<- hs1.len,hq r0 (Yk hr0)]
 subst hn1;have hcap1:=hs1.cap;have hmax1:=hs1.max;have hcapm:=hm.cap;have hmaxm:=hm.max;obtain ⟨W0,eW,hb0,k2,k3⟩:=al2 w #[.slice (some ⟨b,off,none⟩) mn mc] 34 #[(.func (.func 102) #[] #[])] 92;have t1:=hc 0 _ rfl;rw [Nat.zero_mul,Nat.add_zero] at t1;have t0:=(hb0.cell (p:=⟨b,off,none⟩) hbl).trans t1;have g0:=k2.cell 0;simp only [List.getElem?_toArray,List.getElem?_cons_zero] at g0;have HC:=Zh (znF (fun _=>false) 295 #[.pointer (some ⟨w.heap.size,0,none⟩),.pointer (some ⟨w.heap.size+1,0,none⟩)] _ mn mc m _ (hm.next zml hb0) (zCQ Tryz.func295 (by kernel_rfl) rfl) (fun V us r hb2 hmem hr=>by
  obtain ⟨A2,n2,c2,rfl,hs2⟩:=hr;exact zpp n1 A2 n2 c2 r _ _ _ mn mc m V (k2.next hb2) (k3.next hb2) (hm.next zml (zAA hb0 hb2)) hs2 h1 hq (hq r hmem) (ho r hmem)))
 have hmf:∀ (fn:Fn) (first cap:Array Value) (w:World),(Instr.makeFunc fn first cap).run Tryz.prog w=.ok (.func fn first cap) w:=fun _ _ _ _=>rfl
 have hfalse:m.any (fun _=>false)=false:=by simp
 rw [hfalse] at HC;clear hm hc hr0 hvk hs1 hq ho k2 k3 hfalse t1;go_enter Tryz.func231,Tryz.ntmps231
 go_wp2_with fail
 clear eW;refine HC.out.mono ?_;rintro e w1 ⟨rfl,hb1⟩
 go_wp2_with fail
 go_ret;exact ⟨rfl,zAA hb0 hb1⟩
theorem zoe (q:Nat) (M:Option Addr) (mn mc:Nat) (m:List (List Iv)) (w:World) (hm:Sl 1 RB1 w M mn mc m) (h1:1<=mn) (h8:mn<=8) (hq1:1<=q) (hq8:q<=8) (hq:∀r∈m,r.length=q) (ho:∀r∈m,∀d∈r,ivV d=true/\BdI d) :
  Calls Tryz.prog 155 #[.slice M mn mc] w (zBW true w):=by
 have HC:=Zh (zp9 q M mn mc m w hm h1 h8 hq1 hq8 hq ho);clear hm hq ho;go_enter Tryz.func155,Tryz.ntmps155
 go_wp2_with fail
 refine HC.out.mono ?_;rintro e w1 ⟨rfl,hb1⟩
 go_wp2_with fail
 go_ret;exact ⟨rfl,hb1⟩
theorem zoH (p:Int) (h1:8<=p) (h2:p<=512) (w:World):Calls Tryz.prog 157 #[.int .i64 p] w fun e w'=>e=.returned (.bool true)/\w' = w:=by
 go_enter Tryz.func157,Tryz.ntmps157
 go_wp2_with fail
 go_ret;exact ⟨rfl,rfl⟩
theorem znv (p:Int) (w:World):Calls Tryz.prog 77 #[.int .i64 p] w fun e w'=>e=.returned (.bool (znB p))/\w' = w:=by
 by_cases h1:8<=p
 ·by_cases h2:p<=512
  ·have HV:Hid (znB p=true):=by unfold Hid znB;rw [Yf h1,Yf h2];rfl
   go_enter Tryz.func77,Tryz.ntmps77
   go_wp2_with fail
   go_ret;exact ⟨by rw [HV.out];rfl,rfl⟩
  ·have HV:Hid (znB p=false):=by unfold Hid znB;rw [Yf h1,Ye h2];rfl
   go_enter Tryz.func77,Tryz.ntmps77
   go_wp2_with fail
   go_ret;exact ⟨by rw [HV.out];rfl,rfl⟩
 ·have HV:Hid (znB p=false):=by unfold Hid znB;rw [Ye h1];rfl
  go_enter Tryz.func77,Tryz.ntmps77
  go_wp2_with fail
  go_ret;exact ⟨by rw [HV.out];rfl,rfl⟩
theorem zoD (us:List Value) (x:Iv) (w:World) (h:RI w us x) (hx:BdI x):Calls Tryz.prog 156 (#[.agg us.toArray]++#[]) w (zBW (!ivV x) w):=by
 rw [Array.append_empty];obtain ⟨A1,n1,c1,B1,m1,d1,rfl,hs1,hs2⟩:=h;have hb0:=zAE w (.cells #[.bool x.lo.neg,.slice A1 n1 c1,.int .i64 x.lo.e,.bool x.hi.neg,.slice B1 m1 d1,.int .i64 x.hi.e,.bool x.all] 43);have HC:=Zh (zD9 [.bool x.lo.neg,.slice A1 n1 c1,.int .i64 x.lo.e,.bool x.hi.neg,.slice B1 m1 d1,.int .i64 x.hi.e,.bool x.all] x _ (zAX _ _ _ _ ⟨A1,n1,c1,B1,m1,d1,rfl,hs1,hs2⟩ hb0) hx);obtain ⟨p0,p1,p2,p3,p4,p5,p6⟩:=(Blk.new w 43 #[.bool x.lo.neg,.slice A1 n1 c1,.int .i64 x.lo.e,.bool x.hi.neg,.slice B1 m1 d1,.int .i64 x.hi.e,.bool x.all]).cells7;clear hs1 hs2 hx;go_enter Tryz.func156,Tryz.ntmps156
 go_wp2_with fail
 generalize w.alloc (.cells #[.bool x.lo.neg,.slice A1 n1 c1,.int .i64 x.lo.e,.bool x.hi.neg,.slice B1 m1 d1,.int .i64 x.hi.e,.bool x.all] 43)=W0 at *;refine HC.out.mono ?_;rintro e w1 ⟨rfl,hb1⟩
 have hb2:=zAA hb0 hb1;generalize ivV x=v at *;cases v
 all_goals
  go_wp2_with fail
  go_ret;exact ⟨rfl,hb2⟩
theorem zoE (k:Nat) (b4:Nat) (A:Option Addr) (n c:Nat) (xs:List Iv) (w:World) (h4:Blk w b4 24 #[.slice A n c]) (h:Sl 7 RI w A n c xs) (hk:k<n) :
  Calls Tryz.prog 159 #[.int .i64 k,.pointer (some ⟨b4,0,none⟩)] w (zqF (xs.getD k whl) w):=by
 obtain ⟨b,off,x,us,rfl,hbl,hx,hu7,hR,hc⟩:=h.get hk;obtain ⟨A1,n1,c1,B1,m1,d1,rfl,hs1,hs2⟩:=hR;have hxk:xs.getD k whl=x:=by rw [List.getD_eq_getElem?_getD,hx];rfl
 have hcap:=h.cap;have hmax:=h.max;rw [hxk];have hb0:=zAE w (.cells #[.bool false,.slice none 0 0,.int .i64 0,.bool false,.slice none 0 0,.int .i64 0,.bool false] 43);have g0:=(h4.next hb0).cell 0;simp only [List.getElem?_toArray,List.getElem?_cons_zero] at g0;have q0:=(hb0.cell (p:=⟨b,off+k*7,none⟩) hbl).trans (hc 0 _ rfl);have q1:=(hb0.cell (p:=⟨b,off+k*7+1,none⟩) hbl).trans (hc 1 _ rfl);have q2:=(hb0.cell (p:=⟨b,off+k*7+2,none⟩) hbl).trans (hc 2 _ rfl);have q3:=(hb0.cell (p:=⟨b,off+k*7+3,none⟩) hbl).trans (hc 3 _ rfl);have q4:=(hb0.cell (p:=⟨b,off+k*7+4,none⟩) hbl).trans (hc 4 _ rfl);have q5:=(hb0.cell (p:=⟨b,off+k*7+5,none⟩) hbl).trans (hc 5 _ rfl);have q6:=(hb0.cell (p:=⟨b,off+k*7+6,none⟩) hbl).trans (hc 6 _ rfl);have HKR:=Zh (Blk.new w 43 #[.bool false,.slice none 0 0,.int .i64 0,.bool false,.slice none 0 0,.int .i64 0,.bool false]);have HS1:=Zh (hs1.below hb0);have HS2:=Zh (hs2.below hb0);have HB0:=Zh hb0;clear h4 h hx hxk hc hu7 hs1 hs2 hb0;go_enter Tryz.func159,Tryz.ntmps159
 go_upto_region 1 with fail
 generalize w.alloc (.cells #[.bool false,.slice none 0 0,.int .i64 0,.bool false,.slice none 0 0,.int .i64 0,.bool false] 43)=W0 at *;have kr:=HKR.out;obtain ⟨r0,r1,r2,r3,r4,r5,r6⟩:=kr.cells7;have f0:=kr.frozen 0;have f1:=kr.frozen 1;have f2:=kr.frozen 2;have f3:=kr.frozen 3;have f4:=kr.frozen 4;have f5:=kr.frozen 5;have f6:=kr.frozen 6;have HKR2:=Zh kr;clear kr;go_wp2_with fail
 exact zpj Tryz.results159 HKR2.out HS1.out HS2.out HB0.out (by omega) rfl
end Go.Proofs.YtchkfjgcbbbffaaGreatDoor
end
