/- Bundle 13: what the law's walk stands on: S40, S41, S42, S43, S44, S12, S45, S17, S46. -/
import Derived.Test.YtchkfjgcbbbffaaGreatDoorW10
import Derived.Test.YtchkfjgcbbbffaaGreatDoorW12
set_option maxRecDepth 100000
set_option maxHeartbeats 20000000
set_option linter.all false
noncomputable section
namespace Go.Proofs.YtchkfjgcbbbffaaGreatDoor
open Go.RowKit Pl Go.Shelf
theorem zpQ (p:Int) (b4:Nat) (A:Option Addr) (n c:Nat) (r:List Iv) (Xa:Option Addr) (xn xc:Nat) (xs:List Iv) (w:World) (h4:Blk w b4 24 #[.slice Xa xn xc]) (h:Sl 7 RI w A n c r) (h':Sl 7 RI w Xa xn xc xs) (hn:1<=n) (hnx:n<=xn) (hr:∀x∈r,BdI x) (hx:∀x∈xs,BdI x) (ht:zBx w) :
  Calls Tryz.prog 158 #[.slice A n c,.func (.func 159) #[] #[.pointer (some ⟨b4,0,none⟩)],.int .i64 p] w (zpF w.heap.size (zn9 r xs p) w):=by
 obtain ⟨b,off,x,us,rfl,hbl,hx0,hu7,hR,hc⟩:=h.get hn;obtain ⟨A1,n1,c1,B1,m1,d1,rfl,hs1,hs2⟩:=hR;have hn0:0<n:=hn;have hcap:=h.cap;have hmax:=h.max;have hlr:=h.len;have hb0:=zAE w (.cells #[.bool false,.slice none 0 0,.int .i64 0,.bool false,.slice none 0 0,.int .i64 0,.bool false] 43);have s0:=hc 0 _ rfl;rw [Nat.zero_mul,Nat.add_zero] at s0;have s1:=hc 1 _ rfl;rw [Nat.zero_mul,Nat.add_zero] at s1;have s2:=hc 2 _ rfl;rw [Nat.zero_mul,Nat.add_zero] at s2;have s3:=hc 3 _ rfl;rw [Nat.zero_mul,Nat.add_zero] at s3;have s4:=hc 4 _ rfl;rw [Nat.zero_mul,Nat.add_zero] at s4;have s5:=hc 5 _ rfl;rw [Nat.zero_mul,Nat.add_zero] at s5;have s6:=hc 6 _ rfl;rw [Nat.zero_mul,Nat.add_zero] at s6;have s0':=s0;have HAT:=Zh (fun W (hb:Below w.heap.size w W) (k:Nat) (hk:k<n)=>zoE k b4 Xa xn xc xs W (h4.next hb) (h'.next zAX hb) (by omega));have HBX:=Zh (fun (k:Nat)=>show BdI (xs.getD k whl) from by
  rw [List.getD_eq_getElem?_getD];cases hk:xs[k]? with
  | none=>exact zns
  | some z=>exact hx z (Yk hk))
 have HD0:Hid (zpG r xs p 0=zoT x (xs.getD 0 whl) p):=by unfold Hid zpG;rw [List.getD_eq_getElem?_getD,hx0];rfl
 have HX:=Zh (hr x (Yk hx0));have HMU:Hid (∀W,Below w.heap.size w W->∀ (z:Iv) (A6 B6:Option Addr) (n6 c6 m6 d6:Nat),BdI z->SL W A6 n6 c6 z.lo.l->SL W B6 m6 d6 z.hi.l->Calls Tryz.prog 232 #[.agg #[.bool x.lo.neg,.slice A1 n1 c1,.int .i64 x.lo.e,.bool x.hi.neg,.slice B1 m1 d1,.int .i64 x.hi.e,.bool x.all],.agg #[.bool z.lo.neg,.slice A6 n6 c6,.int .i64 z.lo.e,.bool z.hi.neg,.slice B6 m6 d6,.int .i64 z.hi.e,.bool z.all],.int .i64 p] W (zpF W.heap.size (zoT x z p) W)):=fun W hb z A6 B6 n6 c6 m6 d6 hz h3 h4=>zoS x z p A1 B1 A6 B6 n1 c1 m1 d1 n6 c6 m6 d6 W (hs1.below hb) (hs2.below hb) h3 h4 (hr x (Yk hx0)) hz (ht.next hb)
 have HR:=Zh hr;have HH:=Zh h;have HT:=Zh ht;have HKR:=Zh (Blk.new w 43 #[.bool false,.slice none 0 0,.int .i64 0,.bool false,.slice none 0 0,.int .i64 0,.bool false]);have hlr2:(w.alloc (.cells #[.bool false,.slice none 0 0,.int .i64 0,.bool false,.slice none 0 0,.int .i64 0,.bool false] 43)).heap.size=w.heap.size+1:=by simp
 have hlr3:=Ys hlr2.symm;have eg:∀args W,(callFunc 159 args).run Tryz.prog W=.ok (.enter 159 args) W:=zCQ Tryz.func159 (by kernel_rfl) rfl;clear h h' h4 hr hx ht hc hu7 hs1 hs2 hx0 s0' hlr2;go_enter Tryz.func158,Tryz.ntmps158
 go_upto_region 1 with fail
 generalize w.alloc (.cells #[.bool false,.slice none 0 0,.int .i64 0,.bool false,.slice none 0 0,.int .i64 0,.bool false] 43)=W0 at *;have HB0:=Zh hb0;clear hb0;have hDI:Hid (zn9 r xs p=zpG r xs p (n - 1)):=by unfold Hid zn9;rw [hlr]
 generalize zn9 r xs p=PP at *;obtain ⟨y0,hy0⟩:∃y,y=zpG r xs p 0:=⟨_,rfl⟩;have HY0:=Zh hy0;rw [<- hy0] at HD0;clear hy0
 go_cut [7] (fun s7 wx=>∃ (g:Nat) (A5 B5:Option Addr) (n5 c5 m5 d5:Nat),s7=.pointer (some ⟨g,0,none⟩)/\Blk wx g 43 #[.bool y0.lo.neg,.slice A5 n5 c5,.int .i64 y0.lo.e,.bool y0.hi.neg,.slice B5 m5 d5,.int .i64 y0.hi.e,.bool y0.all]/\(SL wx A5 n5 c5 y0.lo.l/\SL wx B5 m5 d5 y0.hi.l)/\(zAn w.heap.size A5 n5/\zAn w.heap.size B5 m5)/\W0.heap.size<=g/\Below W0.heap.size W0 wx)
 case first=>
  have hy0:=HD0.out;clear HD0 HY0;subst hy0;have HBz:=Zh (HBX.out 0);have HAT0:=Zh (fun W hb=>HAT.out W hb 0 hn);generalize xs.getD 0 whl=z at *;have HMU0:=Zh (fun W hb=>HMU.out W hb z);generalize zoT x z p=nw at *;have hB:=zBw W0;have HK:Hid (∀V,Below W0.heap.size W0 V->(fun W=>W.cell? ⟨b,off,none⟩=some (.bool x.lo.neg)/\W.cell? ⟨b,off+1,none⟩=some (.slice A1 n1 c1)/\W.cell? ⟨b,off+2,none⟩=some (.int .i64 x.lo.e)/\W.cell? ⟨b,off+3,none⟩=some (.bool x.hi.neg)/\W.cell? ⟨b,off+4,none⟩=some (.slice B1 m1 d1)/\W.cell? ⟨b,off+5,none⟩=some (.int .i64 x.hi.e)/\W.cell? ⟨b,off+6,none⟩=some (.bool x.all)) V):=fun V hV=>by
   have hV2:=zAA HB0.out hV;have q0:=(hV2.cell (p:=⟨b,off,none⟩) hbl).trans s0;have q1:=(hV2.cell (p:=⟨b,off+1,none⟩) hbl).trans s1;have q2:=(hV2.cell (p:=⟨b,off+2,none⟩) hbl).trans s2;have q3:=(hV2.cell (p:=⟨b,off+3,none⟩) hbl).trans s3;have q4:=(hV2.cell (p:=⟨b,off+4,none⟩) hbl).trans s4;have q5:=(hV2.cell (p:=⟨b,off+5,none⟩) hbl).trans s5;have q6:=(hV2.cell (p:=⟨b,off+6,none⟩) hbl).trans s6;exact ⟨q0,q1,q2,q3,q4,q5,q6⟩
  have HKp:=Zh (HK.out _ hB);clear s0 s1 s2 s3 s4 s5 s6 HAT HMU HBX;refine wp_region_held_drew (S:=(fun W=>W.cell? ⟨b,off,none⟩=some (.bool x.lo.neg)/\W.cell? ⟨b,off+1,none⟩=some (.slice A1 n1 c1)/\W.cell? ⟨b,off+2,none⟩=some (.int .i64 x.lo.e)/\W.cell? ⟨b,off+3,none⟩=some (.bool x.hi.neg)/\W.cell? ⟨b,off+4,none⟩=some (.slice B1 m1 d1)/\W.cell? ⟨b,off+5,none⟩=some (.int .i64 x.hi.e)/\W.cell? ⟨b,off+6,none⟩=some (.bool x.all))) (by kernel_rfl) (HKp.out) (fun hH=>?_);generalize W0.drew=Wd at *;refine tkh 0 hH ?_;refine tkh 1 hH ?_;refine tkh 2 hH ?_;refine tkh 3 hH ?_;refine tkh 5 hH ?_;simp only [Act.put,sT,sZ,sS];refine Yj (rs:=[4,7]) (by kernel_rfl) (by simp) ?_;refine Yc (o:=⟨_,_,_,_,_,_⟩) rfl (fun K hK=>?_) ?_
  ·go_simp
   refine (HAT0.out _ (zAA HB0.out hB)).mono ?_;rintro e3 V1 ⟨A6,n6,c6,B6,m6,d6,rfl,hs3,hs4,hc⟩
   replace hB:=zAA hB hc;replace HKp:=Zh (HK.out _ hB)
   try replace HG:=Zh (HG.out.next hc)
   try replace HM:=Zh (And.intro (HM.out.1.below hc) (HM.out.2.below hc))
   try replace HP:=Zh (And.intro (HP.out.1.below hc) (HP.out.2.below hc))
   try replace HY:=Zh (And.intro (HY.out.1.below hc) (HY.out.2.below hc))
   have HM:=Zh (And.intro hs3 hs4);clear hs3 hs4 hc;go_wp2_with fail
   refine hK.out _ _ (HKp.out) (fun hH=>?_);clear hK K;refine Yj (rs:=[6,7]) (by kernel_rfl) (by simp) ?_;refine Yc (o:=⟨_,_,_,_,_,_⟩) rfl (fun K hK=>?_) ?_
   ·go_simp
    refine (HMU0.out _ (zAA HB0.out hB) A6 B6 n6 c6 m6 d6 HBz.out HM.out.1 HM.out.2).mono ?_;rintro e3 V2 ⟨A8,n8,c8,B8,m8,d8,rfl,hs3,hs4,hff,hc⟩
    have HFN:=Zh (And.intro (hff.1.mono (Yq HB0.out.size hB.size)) (hff.2.mono (Yq HB0.out.size hB.size)));replace hB:=zAA hB hc;replace HKp:=Zh (HK.out _ hB)
    try replace HG:=Zh (HG.out.next hc)
    try replace HM:=Zh (And.intro (HM.out.1.below hc) (HM.out.2.below hc))
    try replace HP:=Zh (And.intro (HP.out.1.below hc) (HP.out.2.below hc))
    try replace HY:=Zh (And.intro (HY.out.1.below hc) (HY.out.2.below hc))
    have HN:=Zh (And.intro hs3 hs4);clear hs3 hs4 hc hff;go_wp2_with fail
    refine hK.out _ _ (HKp.out) (fun hH=>?_);clear hK K;refine rdh 7 (fun K hK=>?_)
    go_simp
    have HG:Hid (Blk (V2.alloc (.cells #[.bool false,.slice none 0 0,.int .i64 0,.bool false,.slice none 0 0,.int .i64 0,.bool false] 43)) V2.heap.size 43 #[.bool false,.slice none 0 0,.int .i64 0,.bool false,.slice none 0 0,.int .i64 0,.bool false]):=Blk.new _ _ _;have hc:=zAE V2 (.cells #[.bool false,.slice none 0 0,.int .i64 0,.bool false,.slice none 0 0,.int .i64 0,.bool false] 43);have hga:=hB.size;replace hB:=zAA hB hc;replace HKp:=Zh (HK.out _ hB)
    try replace HM:=Zh (And.intro (HM.out.1.below hc) (HM.out.2.below hc))
    try replace HN:=Zh (And.intro (HN.out.1.below hc) (HN.out.2.below hc))
    clear hc;generalize (V2.alloc (.cells #[.bool false,.slice none 0 0,.int .i64 0,.bool false,.slice none 0 0,.int .i64 0,.bool false] 43))=Y1 at *;refine hK.out _ _ (HKp.out) (fun hH=>?_);clear hK K;refine rdh 8 (fun K hK=>?_);obtain ⟨r0,r1,r2,r3,r4,r5,r6⟩:=HG.out.cells7;have f0:=HG.out.frozen 0;have f1:=HG.out.frozen 1;have f2:=HG.out.frozen 2;have f3:=HG.out.frozen 3;have f4:=HG.out.frozen 4;have f5:=HG.out.frozen 5;have f6:=HG.out.frozen 6
    go_simp
    clear r0 r1 r2 r3 r4 r5 r6 f0 f1 f2 f3 f4 f5 f6;have HG2:=Zh (HG.out.set7 (.bool nw.lo.neg) (.slice A8 n8 c8) (.int .i64 nw.lo.e) (.bool nw.hi.neg) (.slice B8 m8 d8) (.int .i64 nw.hi.e) (.bool nw.all));have hgz:W0.heap.size<=V2.heap.size:=by omega
    have hbe:=zC0 hB hgz (.bool nw.lo.neg) (.slice A8 n8 c8) (.int .i64 nw.lo.e) (.bool nw.hi.neg) (.slice B8 m8 d8) (.int .i64 nw.hi.e) (.bool nw.all);have hA:=HN.out.1.away HG.out (znA _ _ _ _ _ _ _ _ _ _ _);have hA2:=HN.out.2.away HG.out (znA _ _ _ _ _ _ _ _ _ _ _);have HN2:=Zh (And.intro (HN.out.1.past7 hA (.bool nw.lo.neg) (.slice A8 n8 c8) (.int .i64 nw.lo.e) (.bool nw.hi.neg) (.slice B8 m8 d8) (.int .i64 nw.hi.e) (.bool nw.all)) (HN.out.2.past7 hA2 (.bool nw.lo.neg) (.slice A8 n8 c8) (.int .i64 nw.lo.e) (.bool nw.hi.neg) (.slice B8 m8 d8) (.int .i64 nw.hi.e) (.bool nw.all)));generalize (((((((Y1.setCell ⟨V2.heap.size,0,none⟩ (.bool nw.lo.neg)).setCell ⟨V2.heap.size,1,none⟩ (.slice A8 n8 c8)).setCell ⟨V2.heap.size,2,none⟩ (.int .i64 nw.lo.e)).setCell ⟨V2.heap.size,3,none⟩ (.bool nw.hi.neg)).setCell ⟨V2.heap.size,4,none⟩ (.slice B8 m8 d8)).setCell ⟨V2.heap.size,5,none⟩ (.int .i64 nw.hi.e)).setCell ⟨V2.heap.size,6,none⟩ (.bool nw.all))=WE at *;replace HKp:=Zh (HK.out _ hbe);refine hK.out _ _ (HKp.out) (fun hH=>?_);clear hK K;refine wpAnyH_done (by kernel_rfl) ?_ _;go_wp2_with fail
    go_meet
    exact ⟨_,A8,B8,n8,c8,m8,d8,rfl,HG2.out,HN2.out,HFN.out,hgz,hbe⟩
   refine Yc (o:=⟨_,_,_,_,_,_⟩) rfl (fun K hK=>?_) Yd
   go_simp
   have HG:Hid (Blk (V1.alloc (.cells #[.bool false,.slice none 0 0,.int .i64 0,.bool false,.slice none 0 0,.int .i64 0,.bool false] 43)) V1.heap.size 43 #[.bool false,.slice none 0 0,.int .i64 0,.bool false,.slice none 0 0,.int .i64 0,.bool false]):=Blk.new _ _ _;have hc:=zAE V1 (.cells #[.bool false,.slice none 0 0,.int .i64 0,.bool false,.slice none 0 0,.int .i64 0,.bool false] 43);have hga:=hB.size;replace hB:=zAA hB hc;replace HKp:=Zh (HK.out _ hB)
   try replace HM:=Zh (And.intro (HM.out.1.below hc) (HM.out.2.below hc))
   try replace HN:=Zh (And.intro (HN.out.1.below hc) (HN.out.2.below hc))
   clear hc;generalize (V1.alloc (.cells #[.bool false,.slice none 0 0,.int .i64 0,.bool false,.slice none 0 0,.int .i64 0,.bool false] 43))=Y2 at *;refine hK.out _ _ (HKp.out) (fun hH=>?_);clear hK K;refine rdh 6 (fun K hK=>?_)
   go_simp
   refine (HMU0.out _ (zAA HB0.out hB) A6 B6 n6 c6 m6 d6 HBz.out HM.out.1 HM.out.2).mono ?_;rintro e3 V6 ⟨A8,n8,c8,B8,m8,d8,rfl,hs3,hs4,hff,hc⟩
   have HFN:=Zh (And.intro (hff.1.mono (Yq HB0.out.size hB.size)) (hff.2.mono (Yq HB0.out.size hB.size)));replace hB:=zAA hB hc;replace HKp:=Zh (HK.out _ hB)
   try replace HG:=Zh (HG.out.next hc)
   try replace HM:=Zh (And.intro (HM.out.1.below hc) (HM.out.2.below hc))
   try replace HP:=Zh (And.intro (HP.out.1.below hc) (HP.out.2.below hc))
   try replace HY:=Zh (And.intro (HY.out.1.below hc) (HY.out.2.below hc))
   have HN:=Zh (And.intro hs3 hs4);clear hs3 hs4 hc hff;go_wp2_with fail
   refine hK.out _ _ (HKp.out) (fun hH=>?_);clear hK K;refine rdh 8 (fun K hK=>?_);obtain ⟨r0,r1,r2,r3,r4,r5,r6⟩:=HG.out.cells7;have f0:=HG.out.frozen 0;have f1:=HG.out.frozen 1;have f2:=HG.out.frozen 2;have f3:=HG.out.frozen 3;have f4:=HG.out.frozen 4;have f5:=HG.out.frozen 5;have f6:=HG.out.frozen 6
   go_simp
   clear r0 r1 r2 r3 r4 r5 r6 f0 f1 f2 f3 f4 f5 f6;have HG2:=Zh (HG.out.set7 (.bool nw.lo.neg) (.slice A8 n8 c8) (.int .i64 nw.lo.e) (.bool nw.hi.neg) (.slice B8 m8 d8) (.int .i64 nw.hi.e) (.bool nw.all));have hgz:W0.heap.size<=V1.heap.size:=by omega
   have hbe:=zC0 hB hgz (.bool nw.lo.neg) (.slice A8 n8 c8) (.int .i64 nw.lo.e) (.bool nw.hi.neg) (.slice B8 m8 d8) (.int .i64 nw.hi.e) (.bool nw.all);have hA:=HN.out.1.away HG.out (znA _ _ _ _ _ _ _ _ _ _ _);have hA2:=HN.out.2.away HG.out (znA _ _ _ _ _ _ _ _ _ _ _);have HN2:=Zh (And.intro (HN.out.1.past7 hA (.bool nw.lo.neg) (.slice A8 n8 c8) (.int .i64 nw.lo.e) (.bool nw.hi.neg) (.slice B8 m8 d8) (.int .i64 nw.hi.e) (.bool nw.all)) (HN.out.2.past7 hA2 (.bool nw.lo.neg) (.slice A8 n8 c8) (.int .i64 nw.lo.e) (.bool nw.hi.neg) (.slice B8 m8 d8) (.int .i64 nw.hi.e) (.bool nw.all)));generalize (((((((V6.setCell ⟨V1.heap.size,0,none⟩ (.bool nw.lo.neg)).setCell ⟨V1.heap.size,1,none⟩ (.slice A8 n8 c8)).setCell ⟨V1.heap.size,2,none⟩ (.int .i64 nw.lo.e)).setCell ⟨V1.heap.size,3,none⟩ (.bool nw.hi.neg)).setCell ⟨V1.heap.size,4,none⟩ (.slice B8 m8 d8)).setCell ⟨V1.heap.size,5,none⟩ (.int .i64 nw.hi.e)).setCell ⟨V1.heap.size,6,none⟩ (.bool nw.all))=WE at *;replace HKp:=Zh (HK.out _ hbe);refine hK.out _ _ (HKp.out) (fun hH=>?_);clear hK K;refine wpAnyH_done (by kernel_rfl) ?_ _;go_wp2_with fail
   go_meet
   exact ⟨_,A8,B8,n8,c8,m8,d8,rfl,HG2.out,HN2.out,HFN.out,hgz,hbe⟩
  refine Yc (o:=⟨_,_,_,_,_,_⟩) rfl (fun K hK=>?_) Yd
  go_simp
  have HG:Hid (Blk (Wd.alloc (.cells #[.bool false,.slice none 0 0,.int .i64 0,.bool false,.slice none 0 0,.int .i64 0,.bool false] 43)) Wd.heap.size 43 #[.bool false,.slice none 0 0,.int .i64 0,.bool false,.slice none 0 0,.int .i64 0,.bool false]):=Blk.new _ _ _;have hc:=zAE Wd (.cells #[.bool false,.slice none 0 0,.int .i64 0,.bool false,.slice none 0 0,.int .i64 0,.bool false] 43);have hga:=hB.size;replace hB:=zAA hB hc;replace HKp:=Zh (HK.out _ hB)
  try replace HM:=Zh (And.intro (HM.out.1.below hc) (HM.out.2.below hc))
  try replace HN:=Zh (And.intro (HN.out.1.below hc) (HN.out.2.below hc))
  clear hc;generalize (Wd.alloc (.cells #[.bool false,.slice none 0 0,.int .i64 0,.bool false,.slice none 0 0,.int .i64 0,.bool false] 43))=Y3 at *;refine hK.out _ _ (HKp.out) (fun hH=>?_);clear hK K;refine rdh 4 (fun K hK=>?_)
  go_simp
  refine (HAT0.out _ (zAA HB0.out hB)).mono ?_;rintro e3 V9 ⟨A6,n6,c6,B6,m6,d6,rfl,hs3,hs4,hc⟩
  replace hB:=zAA hB hc;replace HKp:=Zh (HK.out _ hB)
  try replace HG:=Zh (HG.out.next hc)
  try replace HM:=Zh (And.intro (HM.out.1.below hc) (HM.out.2.below hc))
  try replace HP:=Zh (And.intro (HP.out.1.below hc) (HP.out.2.below hc))
  try replace HY:=Zh (And.intro (HY.out.1.below hc) (HY.out.2.below hc))
  have HM:=Zh (And.intro hs3 hs4);clear hs3 hs4 hc;go_wp2_with fail
  refine hK.out _ _ (HKp.out) (fun hH=>?_);clear hK K;refine rdh 6 (fun K hK=>?_)
  go_simp
  refine (HMU0.out _ (zAA HB0.out hB) A6 B6 n6 c6 m6 d6 HBz.out HM.out.1 HM.out.2).mono ?_;rintro e3 V10 ⟨A8,n8,c8,B8,m8,d8,rfl,hs3,hs4,hff,hc⟩
  have HFN:=Zh (And.intro (hff.1.mono (Yq HB0.out.size hB.size)) (hff.2.mono (Yq HB0.out.size hB.size)));replace hB:=zAA hB hc;replace HKp:=Zh (HK.out _ hB)
  try replace HG:=Zh (HG.out.next hc)
  try replace HM:=Zh (And.intro (HM.out.1.below hc) (HM.out.2.below hc))
  try replace HP:=Zh (And.intro (HP.out.1.below hc) (HP.out.2.below hc))
  try replace HY:=Zh (And.intro (HY.out.1.below hc) (HY.out.2.below hc))
  have HN:=Zh (And.intro hs3 hs4);clear hs3 hs4 hc hff;go_wp2_with fail
  refine hK.out _ _ (HKp.out) (fun hH=>?_);clear hK K;refine rdh 8 (fun K hK=>?_);obtain ⟨r0,r1,r2,r3,r4,r5,r6⟩:=HG.out.cells7;have f0:=HG.out.frozen 0;have f1:=HG.out.frozen 1;have f2:=HG.out.frozen 2;have f3:=HG.out.frozen 3;have f4:=HG.out.frozen 4;have f5:=HG.out.frozen 5;have f6:=HG.out.frozen 6
  go_simp
  clear r0 r1 r2 r3 r4 r5 r6 f0 f1 f2 f3 f4 f5 f6;have HG2:=Zh (HG.out.set7 (.bool nw.lo.neg) (.slice A8 n8 c8) (.int .i64 nw.lo.e) (.bool nw.hi.neg) (.slice B8 m8 d8) (.int .i64 nw.hi.e) (.bool nw.all));have hgz:W0.heap.size<=Wd.heap.size:=by omega
  have hbe:=zC0 hB hgz (.bool nw.lo.neg) (.slice A8 n8 c8) (.int .i64 nw.lo.e) (.bool nw.hi.neg) (.slice B8 m8 d8) (.int .i64 nw.hi.e) (.bool nw.all);have hA:=HN.out.1.away HG.out (znA _ _ _ _ _ _ _ _ _ _ _);have hA2:=HN.out.2.away HG.out (znA _ _ _ _ _ _ _ _ _ _ _);have HN2:=Zh (And.intro (HN.out.1.past7 hA (.bool nw.lo.neg) (.slice A8 n8 c8) (.int .i64 nw.lo.e) (.bool nw.hi.neg) (.slice B8 m8 d8) (.int .i64 nw.hi.e) (.bool nw.all)) (HN.out.2.past7 hA2 (.bool nw.lo.neg) (.slice A8 n8 c8) (.int .i64 nw.lo.e) (.bool nw.hi.neg) (.slice B8 m8 d8) (.int .i64 nw.hi.e) (.bool nw.all)));generalize (((((((V10.setCell ⟨Wd.heap.size,0,none⟩ (.bool nw.lo.neg)).setCell ⟨Wd.heap.size,1,none⟩ (.slice A8 n8 c8)).setCell ⟨Wd.heap.size,2,none⟩ (.int .i64 nw.lo.e)).setCell ⟨Wd.heap.size,3,none⟩ (.bool nw.hi.neg)).setCell ⟨Wd.heap.size,4,none⟩ (.slice B8 m8 d8)).setCell ⟨Wd.heap.size,5,none⟩ (.int .i64 nw.hi.e)).setCell ⟨Wd.heap.size,6,none⟩ (.bool nw.all))=WE at *;replace HKp:=Zh (HK.out _ hbe);refine hK.out _ _ (HKp.out) (fun hH=>?_);clear hK K;refine wpAnyH_done (by kernel_rfl) ?_ _;go_wp2_with fail
  go_meet
  exact ⟨_,A8,B8,n8,c8,m8,d8,rfl,HG2.out,HN2.out,HFN.out,hgz,hbe⟩
 case rest=>
  obtain ⟨g,A5,B5,n5,c5,m5,d5,rfl,hg,hy,hfy,hgz,hb1⟩:=hcut;have HFY1:=Zh hfy;have HG0:=Zh hg;have HY1:=Zh hy;have HB1:=Zh hb1;clear hg hy hb1 hfy s0 s1 s2 s3 s4 s5 s6 HMU HX HD0;go_wp2_with fail
  go_loopw [8] (fun i wr=>∃ (k:Nat) (y:Iv) (A5 B5:Option Addr) (n5 c5 m5 d5:Nat),1<=k/\k<=n/\i=.int .i64 k/\Hid (y=zpG r xs p (k - 1))/\Hid (Blk wr g 43 #[.bool y.lo.neg,.slice A5 n5 c5,.int .i64 y.lo.e,.bool y.hi.neg,.slice B5 m5 d5,.int .i64 y.hi.e,.bool y.all])/\Hid (SL wr A5 n5 c5 y.lo.l/\SL wr B5 m5 d5 y.hi.l)/\Hid (zAn w.heap.size A5 n5/\zAn w.heap.size B5 m5)/\Hid (Below W0.heap.size W0 wr)) (fun i _=>n - (intOf i).toNat)
  case atStart=>exact ⟨1,y0,A5,B5,n5,c5,m5,d5,by omega,hn,rfl,HY0.out,HG0.out,HY1.out,HFY1.out,HB1.out⟩
  case round=>
   clear HG0 HY1 HB1 HY0 HFY1;obtain ⟨k,y,A5,B5,n5,c5,m5,d5,hk1,hkn,rfl,HE,HG,HY,HFY,HB⟩:=hrel;by_cases hlt:k<n
   ·obtain ⟨x,us,-,hx1,hu7,hR,hc⟩:=HH.out.get' hlt
    obtain ⟨A1,n1,c1,B1,m1,d1,rfl,hs1,hs2⟩:=hR;have s0:=hc 0 _ rfl;have s1:=hc 1 _ rfl;have s2:=hc 2 _ rfl;have s3:=hc 3 _ rfl;have s4:=hc 4 _ rfl;have s5:=hc 5 _ rfl;have s6:=hc 6 _ rfl;have HBx:=Zh (HR.out x (Yk hx1));have HBy:Hid (BdI y):=by unfold Hid;rw [HE.out];exact zop _ _ _ _
    have HE1:Hid (zpG r xs p k=znT y (zoT x (xs.getD k whl) p) p):=by
     unfold Hid;obtain ⟨j,rfl⟩:∃j,k=j+1:=⟨k - 1,by omega⟩;rw [HE.out,Nat.add_sub_cancel]
     show znT (zpG r xs p j) (zoT (r.getD (j+1) whl) (xs.getD (j+1) whl) p) p=_
     rw [show r.getD (j+1) whl=x from by rw [List.getD_eq_getElem?_getD,hx1];rfl]
    have HBz:=Zh (HBX.out k);have HAT0:=Zh (fun W hb=>HAT.out W hb k hlt);generalize xs.getD k whl=z at *;have HMU0:Hid (∀W,Below w.heap.size w W->∀ (A6 B6:Option Addr) (n6 c6 m6 d6:Nat),BdI z->SL W A6 n6 c6 z.lo.l->SL W B6 m6 d6 z.hi.l->Calls Tryz.prog 232 #[.agg #[.bool x.lo.neg,.slice A1 n1 c1,.int .i64 x.lo.e,.bool x.hi.neg,.slice B1 m1 d1,.int .i64 x.hi.e,.bool x.all],.agg #[.bool z.lo.neg,.slice A6 n6 c6,.int .i64 z.lo.e,.bool z.hi.neg,.slice B6 m6 d6,.int .i64 z.hi.e,.bool z.all],.int .i64 p] W (zpF W.heap.size (zoT x z p) W)):=fun W hb A6 B6 n6 c6 m6 d6 hz h3 h4=>zoS x z p A1 B1 A6 B6 n1 c1 m1 d1 n6 c6 m6 d6 W (hs1.below hb) (hs2.below hb) h3 h4 HBx.out hz (HT.out.next hb)
    have HBq:=Zh (zoq x z p);generalize zoT x z p=q at *;have HAD:Hid (∀W,Below w.heap.size w W->∀ (A7 B7:Option Addr) (n7 c7 m7 d7:Nat),SL W A5 n5 c5 y.lo.l->SL W B5 m5 d5 y.hi.l->SL W A7 n7 c7 q.lo.l->SL W B7 m7 d7 q.hi.l->Calls Tryz.prog 164 #[.agg #[.bool y.lo.neg,.slice A5 n5 c5,.int .i64 y.lo.e,.bool y.hi.neg,.slice B5 m5 d5,.int .i64 y.hi.e,.bool y.all],.agg #[.bool q.lo.neg,.slice A7 n7 c7,.int .i64 q.lo.e,.bool q.hi.neg,.slice B7 m7 d7,.int .i64 q.hi.e,.bool q.all],.int .i64 p] W (zpF W.heap.size (znT y q p) W)):=fun W hb A7 B7 n7 c7 m7 d7 h1 h2 h3 h4=>zoR y q p A5 B5 A7 B7 n5 c5 m5 d5 n7 c7 m7 d7 W h1 h2 h3 h4 HBy.out HBq.out (HT.out.next hb)
    generalize znT y q p=nw at *;have hB:=zAA HB.out (zBw wr);have HK:Hid (∀V,Below W0.heap.size W0 V->(fun W=>W.cell? ⟨b,off+k*7,none⟩=some (.bool x.lo.neg)/\W.cell? ⟨b,off+k*7+1,none⟩=some (.slice A1 n1 c1)/\W.cell? ⟨b,off+k*7+2,none⟩=some (.int .i64 x.lo.e)/\W.cell? ⟨b,off+k*7+3,none⟩=some (.bool x.hi.neg)/\W.cell? ⟨b,off+k*7+4,none⟩=some (.slice B1 m1 d1)/\W.cell? ⟨b,off+k*7+5,none⟩=some (.int .i64 x.hi.e)/\W.cell? ⟨b,off+k*7+6,none⟩=some (.bool x.all)) V):=fun V hV=>by
     have hV2:=zAA HB0.out hV;have q0:=(hV2.cell (p:=⟨b,off+k*7,none⟩) hbl).trans s0;have q1:=(hV2.cell (p:=⟨b,off+k*7+1,none⟩) hbl).trans s1;have q2:=(hV2.cell (p:=⟨b,off+k*7+2,none⟩) hbl).trans s2;have q3:=(hV2.cell (p:=⟨b,off+k*7+3,none⟩) hbl).trans s3;have q4:=(hV2.cell (p:=⟨b,off+k*7+4,none⟩) hbl).trans s4;have q5:=(hV2.cell (p:=⟨b,off+k*7+5,none⟩) hbl).trans s5;have q6:=(hV2.cell (p:=⟨b,off+k*7+6,none⟩) hbl).trans s6;exact ⟨q0,q1,q2,q3,q4,q5,q6⟩
    have HKp:=Zh (HK.out _ hB);have HG':=Zh (HG.out.next (zBw wr));have HY':=Zh (And.intro (HY.out.1.below (zBw wr)) (HY.out.2.below (zBw wr)));clear s0 s1 s2 s3 s4 s5 s6 HAT HBX hc hu7 hx1 hs1 hs2 HE HG HY HB;have HG:=HG';have HY:=HY';clear HG' HY';go_upto_region 5 with fail
    refine wp_region_held_drew (S:=(fun W=>W.cell? ⟨b,off+k*7,none⟩=some (.bool x.lo.neg)/\W.cell? ⟨b,off+k*7+1,none⟩=some (.slice A1 n1 c1)/\W.cell? ⟨b,off+k*7+2,none⟩=some (.int .i64 x.lo.e)/\W.cell? ⟨b,off+k*7+3,none⟩=some (.bool x.hi.neg)/\W.cell? ⟨b,off+k*7+4,none⟩=some (.slice B1 m1 d1)/\W.cell? ⟨b,off+k*7+5,none⟩=some (.int .i64 x.hi.e)/\W.cell? ⟨b,off+k*7+6,none⟩=some (.bool x.all))) (by kernel_rfl) (HKp.out) (fun hH=>?_);generalize wr.drew=Wd at *;refine tkh 1 hH ?_;refine tkh 2 hH ?_;refine tkh 3 hH ?_;refine tkh 4 hH ?_;refine tkh 5 hH ?_;refine tkh 6 hH ?_;refine tkh 8 hH ?_;refine tkh 10 hH ?_;simp only [Act.put,sT,sZ,sS];refine Yj (rs:=[0,7]) (by kernel_rfl) (by simp) ?_;refine Yc (o:=⟨_,_,_,_,_,_⟩) rfl (fun K hK=>?ga1) ?gb1
    case' ga1=>
     obtain ⟨x0,x1,x2,x3,x4,x5,x6⟩:=HG.out.cells7
     go_simp
     clear x0 x1 x2 x3 x4 x5 x6;refine hK.out _ _ (HKp.out) (fun hH=>?_);clear hK K;refine rdh 7 (fun K hK=>?_)
     go_simp
     refine (HAT0.out _ (zAA HB0.out hB)).mono ?_;rintro e3 V7 ⟨A6,n6,c6,B6,m6,d6,rfl,hs3,hs4,hc⟩
     replace hB:=zAA hB hc;replace HKp:=Zh (HK.out _ hB)
     try replace HG:=Zh (HG.out.next hc)
     try replace HM:=Zh (And.intro (HM.out.1.below hc) (HM.out.2.below hc))
     try replace HP:=Zh (And.intro (HP.out.1.below hc) (HP.out.2.below hc))
     try replace HY:=Zh (And.intro (HY.out.1.below hc) (HY.out.2.below hc))
     have HM:=Zh (And.intro hs3 hs4);clear hs3 hs4 hc;go_wp2_with fail
     refine hK.out _ _ (HKp.out) (fun hH=>?_);clear hK K;refine rdh 9 (fun K hK=>?_)
     go_simp
     refine (HMU0.out _ (zAA HB0.out hB) A6 B6 n6 c6 m6 d6 HBz.out HM.out.1 HM.out.2).mono ?_;rintro e3 V9 ⟨A7,n7,c7,B7,m7,d7,rfl,hs3,hs4,-,hc⟩
     replace hB:=zAA hB hc;replace HKp:=Zh (HK.out _ hB)
     try replace HG:=Zh (HG.out.next hc)
     try replace HM:=Zh (And.intro (HM.out.1.below hc) (HM.out.2.below hc))
     try replace HP:=Zh (And.intro (HP.out.1.below hc) (HP.out.2.below hc))
     try replace HY:=Zh (And.intro (HY.out.1.below hc) (HY.out.2.below hc))
     have HP:=Zh (And.intro hs3 hs4);clear hs3 hs4 hc;go_wp2_with fail
     refine hK.out _ _ (HKp.out) (fun hH=>?_);clear hK K
    case' gb1=>
     refine Yc (o:=⟨_,_,_,_,_,_⟩) rfl (fun K hK=>?ga2) Yd
     case' ga2=>
      go_simp
      refine (HAT0.out _ (zAA HB0.out hB)).mono ?_;rintro e3 V7 ⟨A6,n6,c6,B6,m6,d6,rfl,hs3,hs4,hc⟩
      replace hB:=zAA hB hc;replace HKp:=Zh (HK.out _ hB)
      try replace HG:=Zh (HG.out.next hc)
      try replace HM:=Zh (And.intro (HM.out.1.below hc) (HM.out.2.below hc))
      try replace HP:=Zh (And.intro (HP.out.1.below hc) (HP.out.2.below hc))
      try replace HY:=Zh (And.intro (HY.out.1.below hc) (HY.out.2.below hc))
      have HM:=Zh (And.intro hs3 hs4);clear hs3 hs4 hc;go_wp2_with fail
      refine hK.out _ _ (HKp.out) (fun hH=>?_);clear hK K;refine Yj (rs:=[0,9]) (by kernel_rfl) (by simp) ?_;refine Yc (o:=⟨_,_,_,_,_,_⟩) rfl (fun K hK=>?ga3) ?gb3
      case' ga3=>
       obtain ⟨x0,x1,x2,x3,x4,x5,x6⟩:=HG.out.cells7
       go_simp
       clear x0 x1 x2 x3 x4 x5 x6;refine hK.out _ _ (HKp.out) (fun hH=>?_);clear hK K;refine rdh 9 (fun K hK=>?_)
       go_simp
       refine (HMU0.out _ (zAA HB0.out hB) A6 B6 n6 c6 m6 d6 HBz.out HM.out.1 HM.out.2).mono ?_;rintro e3 V9 ⟨A7,n7,c7,B7,m7,d7,rfl,hs3,hs4,-,hc⟩
       replace hB:=zAA hB hc;replace HKp:=Zh (HK.out _ hB)
       try replace HG:=Zh (HG.out.next hc)
       try replace HM:=Zh (And.intro (HM.out.1.below hc) (HM.out.2.below hc))
       try replace HP:=Zh (And.intro (HP.out.1.below hc) (HP.out.2.below hc))
       try replace HY:=Zh (And.intro (HY.out.1.below hc) (HY.out.2.below hc))
       have HP:=Zh (And.intro hs3 hs4);clear hs3 hs4 hc;go_wp2_with fail
       refine hK.out _ _ (HKp.out) (fun hH=>?_);clear hK K
      case' gb3=>
       refine Yc (o:=⟨_,_,_,_,_,_⟩) rfl (fun K hK=>?ga4) Yd
       case' ga4=>
        go_simp
        refine (HMU0.out _ (zAA HB0.out hB) A6 B6 n6 c6 m6 d6 HBz.out HM.out.1 HM.out.2).mono ?_;rintro e3 V9 ⟨A7,n7,c7,B7,m7,d7,rfl,hs3,hs4,-,hc⟩
        replace hB:=zAA hB hc;replace HKp:=Zh (HK.out _ hB)
        try replace HG:=Zh (HG.out.next hc)
        try replace HM:=Zh (And.intro (HM.out.1.below hc) (HM.out.2.below hc))
        try replace HP:=Zh (And.intro (HP.out.1.below hc) (HP.out.2.below hc))
        try replace HY:=Zh (And.intro (HY.out.1.below hc) (HY.out.2.below hc))
        have HP:=Zh (And.intro hs3 hs4);clear hs3 hs4 hc;go_wp2_with fail
        refine hK.out _ _ (HKp.out) (fun hH=>?_);clear hK K;refine rdh 0 (fun K hK=>?_);obtain ⟨x0,x1,x2,x3,x4,x5,x6⟩:=HG.out.cells7
        go_simp
        clear x0 x1 x2 x3 x4 x5 x6;refine hK.out _ _ (HKp.out) (fun hH=>?_);clear hK K
    all_goals
     refine rdh 11 (fun K hK=>?_)
     go_simp
     refine (HAD.out _ (zAA HB0.out hB) A7 B7 n7 c7 m7 d7 HY.out.1 HY.out.2 HP.out.1 HP.out.2).mono ?_;rintro e3 V11 ⟨A8,n8,c8,B8,m8,d8,rfl,hs3,hs4,hff,hc⟩
     have HFN:=Zh (And.intro (hff.1.mono (Yq HB0.out.size hB.size)) (hff.2.mono (Yq HB0.out.size hB.size)));replace hB:=zAA hB hc;replace HKp:=Zh (HK.out _ hB)
     try replace HG:=Zh (HG.out.next hc)
     try replace HM:=Zh (And.intro (HM.out.1.below hc) (HM.out.2.below hc))
     try replace HP:=Zh (And.intro (HP.out.1.below hc) (HP.out.2.below hc))
     try replace HY:=Zh (And.intro (HY.out.1.below hc) (HY.out.2.below hc))
     have HN:=Zh (And.intro hs3 hs4);clear hs3 hs4 hc hff;go_wp2_with fail
     refine hK.out _ _ (HKp.out) (fun hH=>?_);clear hK K;refine rdh 12 (fun K hK=>?_);obtain ⟨r0,r1,r2,r3,r4,r5,r6⟩:=HG.out.cells7;have f0:=HG.out.frozen 0;have f1:=HG.out.frozen 1;have f2:=HG.out.frozen 2;have f3:=HG.out.frozen 3;have f4:=HG.out.frozen 4;have f5:=HG.out.frozen 5;have f6:=HG.out.frozen 6
     go_simp
     clear r0 r1 r2 r3 r4 r5 r6 f0 f1 f2 f3 f4 f5 f6;have HG2:=Zh (HG.out.set7 (.bool nw.lo.neg) (.slice A8 n8 c8) (.int .i64 nw.lo.e) (.bool nw.hi.neg) (.slice B8 m8 d8) (.int .i64 nw.hi.e) (.bool nw.all));have hbe:=zC0 hB hgz (.bool nw.lo.neg) (.slice A8 n8 c8) (.int .i64 nw.lo.e) (.bool nw.hi.neg) (.slice B8 m8 d8) (.int .i64 nw.hi.e) (.bool nw.all);have hA:=HN.out.1.away HG.out (znA _ _ _ _ _ _ _ _ _ _ _);have hA2:=HN.out.2.away HG.out (znA _ _ _ _ _ _ _ _ _ _ _);have HN2:=Zh (And.intro (HN.out.1.past7 hA (.bool nw.lo.neg) (.slice A8 n8 c8) (.int .i64 nw.lo.e) (.bool nw.hi.neg) (.slice B8 m8 d8) (.int .i64 nw.hi.e) (.bool nw.all)) (HN.out.2.past7 hA2 (.bool nw.lo.neg) (.slice A8 n8 c8) (.int .i64 nw.lo.e) (.bool nw.hi.neg) (.slice B8 m8 d8) (.int .i64 nw.hi.e) (.bool nw.all)));generalize (((((((V11.setCell ⟨g,0,none⟩ (.bool nw.lo.neg)).setCell ⟨g,1,none⟩ (.slice A8 n8 c8)).setCell ⟨g,2,none⟩ (.int .i64 nw.lo.e)).setCell ⟨g,3,none⟩ (.bool nw.hi.neg)).setCell ⟨g,4,none⟩ (.slice B8 m8 d8)).setCell ⟨g,5,none⟩ (.int .i64 nw.hi.e)).setCell ⟨g,6,none⟩ (.bool nw.all))=WE at *;replace HKp:=Zh (HK.out _ hbe);refine hK.out _ _ (HKp.out) (fun hH=>?_);clear hK K;refine wpAnyH_done (by kernel_rfl) ?_ _;go_wp2_with fail
     go_roundw
     case rel=>exact ⟨k+1,nw,A8,B8,n8,c8,m8,d8,by omega,by omega,by go_num,by unfold Hid;rw [Nat.add_sub_cancel,HE1.out],HG2.out,HN2.out,HFN.out,hbe⟩
     case measure=>simp [intOf];omega
   ·obtain rfl:n=k:=by omega
    have HV2:Hid (PP=y):=by unfold Hid;rw [hDI.out,HE.out]
    obtain ⟨x0,x1,x2,x3,x4,x5,x6⟩:=HG.out.cells7;have kr:=HKR.out.next HB.out;obtain ⟨r0,r1,r2,r3,r4,r5,r6⟩:=kr.cells7;have f0:=kr.frozen 0;have f1:=kr.frozen 1;have f2:=kr.frozen 2;have f3:=kr.frozen 3;have f4:=kr.frozen 4;have f5:=kr.frozen 5;have f6:=kr.frozen 6;have HKR2:=Zh kr;clear kr;go_wp2_with fail
    rw [HV2.out];exact znL Tryz.results158 HKR2.out HY.out.1 HY.out.2 HFY.out (zAA HB0.out HB.out) (by omega) rfl
theorem zqB {K:Nat}{w:World}{y:Iv}{A B:Option Addr}{n c m d:Nat}(h1:SL w A n c y.lo.l) (h2:SL w B m d y.hi.l) (hf:zAn K A n/\zAn K B m):Ly K w (fun W=>RI W [.bool y.lo.neg,.slice A n c,.int .i64 y.lo.e,.bool y.hi.neg,.slice B m d,.int .i64 y.hi.e,.bool y.all] y):=
 ((h1.ly hf.1).and (h2.ly hf.2)).imp (fun W h=>⟨A,n,c,B,m,d,rfl,h.1,h.2⟩)
theorem zod (p:Int) (M:Option Addr) (mn mc:Nat) (m:List (List Iv)) (Xa:Option Addr) (xn xc:Nat) (xs:List Iv) (w:World) (hm:Sl 1 RB1 w M mn mc m) (hx:Sl 7 RI w Xa xn xc xs) (h1:1<=mn) (h8:mn<=8) (hq1:1<=xn) (hq8:xn<=8) (hq:∀r∈m,r.length=xn) (ho:∀r∈m,∀d∈r,ivV d=true/\BdI d) (hox:∀d∈xs,ivV d=true/\BdI d) (hp1:8<=p) (hp2:p<=512) (ht:zBx w) :
  Calls Tryz.prog 78 #[.slice M mn mc,.slice Xa xn xc,.int .i64 p] w fun e w'=>∃A c,e=.returned (.tuple #[.slice A mn c,.int .i64 0])/\Ly w.heap.size w' (fun W=>Sl 7 RI W A mn c (m.map fun r=>zn9 r xs p))/\Below w.heap.size w w':=by
 obtain ⟨b,off,r0,vs,rfl,hbl,hr0,hvk,hR,hc⟩:=hm.get h1;obtain ⟨A1,n1,c1,rfl,hs1⟩:=hR;have hn1:n1=xn:=by rw [<- hs1.len,hq r0 (Yk hr0)]
 subst hn1;have hcap1:=hs1.cap;have hmax1:=hs1.max;have hcapm:=hm.cap;have hmaxm:=hm.max;have hcapx:=hx.cap;have hmaxx:=hx.max;have hlm:=hm.len;have hb0:=zAE w (.cells #[.slice Xa n1 xc] 24);have h4:=Blk.new w 24 #[.slice Xa n1 xc];have t1:=hc 0 _ rfl;rw [Nat.zero_mul,Nat.add_zero] at t1;have hsz:w.heap.size+1<=(w.alloc (.cells #[.slice Xa n1 xc] 24)).heap.size:=by simp
 have HV:=Zh (zoe n1 (some ⟨b,off,none⟩) mn mc m _ (hm.next zml hb0) h1 h8 hq1 hq8 hq ho);have hfalse:xs.any (fun d=>!ivV d)=false:=by
  rw [List.any_eq_false];intro d hd;rw [(hox d hd).1];exact Bool.false_ne_true
 have HCF:=Zh (fun W (hb:Below w.heap.size w W)=>zCv (fun d=>!ivV d) 156 #[] Xa n1 xc xs W (hx.next zAX hb) (zCQ Tryz.func156 (by kernel_rfl) rfl) (fun V us d hb2 hmem hr=>zoD us d V hr (hox d hmem).2));rw [hfalse] at HCF;have HPR:=Zh (fun W=>zoH p hp1 hp2 W);have HH:=Zh hm;have HDO:=Zh (fun W (hb:Below w.heap.size w W) (hb4:Blk W w.heap.size 24 #[.slice Xa n1 xc]) (r:List Iv) (hr:r∈m) (A2:Option Addr) (c2:Nat) (hs:Sl 7 RI W A2 n1 c2 r)=>zpQ p w.heap.size A2 n1 c2 r Xa n1 xc xs W hb4 hs (hx.next zAX hb) hq1 (Ya _) (fun d hd=>(ho r hr d hd).2) (fun d hd=>(hox d hd).2) (ht.next hb));have HQ:=Zh hq;have HT1:=Zh t1;have hmf:∀ (fn:Fn) (first cap:Array Value) (w:World),(Instr.makeFunc fn first cap).run Tryz.prog w=.ok (.func fn first cap) w:=fun _ _ _ _=>rfl
 clear hm hx hc hr0 hvk hs1 hq ho hox t1 hfalse ht;go_enter Tryz.func78,Tryz.ntmps78
 go_wp2_with fail
 generalize w.alloc (.cells #[.slice Xa n1 xc] 24)=W0 at *;have HB0:=Zh hb0;have HK4:=Zh h4;clear hb0 h4;refine HV.out.mono ?_;rintro e w1 ⟨rfl,hb1⟩
 have g0:=(HK4.out.next hb1).cell 0;simp only [List.getElem?_toArray,List.getElem?_cons_zero] at g0;have HB1:=Zh hb1;clear hb1 HV;go_wp2_with fail
 refine (HCF.out _ (zAA HB0.out HB1.out)).mono ?_;rintro e w2 ⟨rfl,hb2⟩
 have HB2:=Zh (zAA HB1.out hb2);clear hb2 HCF HB1 g0;go_wp2_with fail
 refine (HPR.out w2).mono ?_;rintro e w9 ⟨rfl,rfl⟩
 go_upto_region 5 with fail
 have hn0:0<mn:=h1
 go_cut [23] (fun s23 wx=>s23=.bool false/\Below W0.heap.size W0 wx)
 case first=>
  have hB:=zAA HB2.out (zBw w9);have HK:Hid (∀V,Below W0.heap.size W0 V->(fun W=>W.cell? ⟨b,off,none⟩=some (.slice A1 n1 c1)/\W.cell? ⟨w.heap.size,0,none⟩=some (.slice Xa n1 xc)) V):=fun V hV=>⟨((zAA HB0.out hV).cell (p:=⟨b,off,none⟩) hbl).trans HT1.out,(HK4.out.next hV).cell 0⟩
  have HKp:=Zh (HK.out _ hB);refine wp_region_held_drew (S:=(fun W=>W.cell? ⟨b,off,none⟩=some (.slice A1 n1 c1)/\W.cell? ⟨w.heap.size,0,none⟩=some (.slice Xa n1 xc))) (by kernel_rfl) (HKp.out) (fun hH=>?_);generalize w9.drew=Wd at *;refine tkh 0 hH ?_;refine tkh 1 hH ?_;refine tkh 2 hH ?_;refine tkh 3 hH ?_;refine tkh 4 hH ?_;refine tkh 5 hH ?_;refine tkh 6 hH ?_;refine tkh 7 hH ?_;simp only [Act.put,sT,sZ,sS];refine wpAnyH_done (by kernel_rfl) ?_ _;go_wp2_with fail
  go_meet
  exact ⟨rfl,hB⟩
 case rest=>
  obtain ⟨rfl,hb3⟩:=hcut;have HB3:=Zh hb3;have hz3:=hb3.size;clear hb3 HB2 HPR HT1;go_wp2_with fail
  go_loopw [8,33] (fun v i wr=>∃ (k:Nat) (fs:List (List Value)),k<=mn/\i=.int .i64 k/\Hid (Below W0.heap.size W0 wr)/\Hid (Acc 43 7 RI w.heap.size W0.heap.size wr v fs ((m.take k).map fun r=>zn9 r xs p))) (fun _ i _=>mn - (intOf i).toNat)
  case atStart=>exact ⟨0,[],by omega,rfl,HB3.out,Acc.nil _ _ _ (by omega) _⟩
  case round=>
   obtain ⟨k,fs,hk,rfl,HB,HA⟩:=hrel;by_cases hlt:k<mn
   ·obtain ⟨r,us,-,hr1,hk1,hR,hc⟩:=HH.out.get' hlt
    obtain ⟨A2,n2,c2,rfl,hs2⟩:=hR;have hn2:n2=n1:=by rw [<- hs2.len];exact HQ.out r (Yk hr1)
    subst hn2;have t1:=hc 0 _ rfl;rw [Nat.mul_one,Nat.add_zero] at t1;have q0:=((zAA HB0.out HB.out).cell (p:=⟨b,off+k,none⟩) hbl).trans t1;have HD:=Zh (HDO.out wr (zAA HB0.out HB.out) (HK4.out.next HB.out) r (Yk hr1) A2 c2 (hs2.next zAX (zAA HB0.out HB.out)));have HT:Hid ((m.take (k+1)).map (fun r=>zn9 r xs p)=(m.take k).map (fun r=>zn9 r xs p)++[zn9 r xs p]):=by unfold Hid;rw [List.take_add_one,hr1];simp
    generalize zn9 r xs p=y at *;clear hc hs2 hr1 hk1 t1;go_wp2_with fail
    refine HD.out.mono ?_;rintro e w4 ⟨A5,n5,c5,B5,m5,d5,rfl,hs5,hs6,hff,hb4⟩
    have hfl:fs.length<=1000:=by have:=HA.out.len;rw [Xf,Yr] at this;omega
    have hb5:=zAE w4 (.cells #[.bool y.lo.neg,.slice A5 n5 c5,.int .i64 y.lo.e,.bool y.hi.neg,.slice B5 m5 d5,.int .i64 y.hi.e,.bool y.all] 43);have HLY:=Zh ((zqB hs5 hs6 hff).up (Nat.le_of_lt (by simp:w4.heap.size<(w4.alloc (.cells #[.bool y.lo.neg,.slice A5 n5 c5,.int .i64 y.lo.e,.bool y.hi.neg,.slice B5 m5 d5,.int .i64 y.hi.e,.bool y.all] 43)).heap.size)) (Ya _) (fun b _ hb=>hb5.block b hb));have hbB:=zAA hb4 hb5;have HA2:=Zh (HA.out.keep hbB.size (fun b _ hb=>hbB.block b hb));have HOW:Hid (∀o,_=some o->o<wr.heap.size\/w4.heap.size+1<=o):=fun o ho=>.inl (HA.out.own.lt o ho).2
    have HBB:=Zh hbB;have hz1:=HB.out.size;have hz2:=hb4.size;clear q0 hs5 hs6 hff hb4 hb5 hbB HD
    go_wp2_with (at_builtin;go_loud (refine zIK rfl _ _ 24 rfl 43 7 88 _ zQG rfl (by omega) (by omega) Tryz.underlying24 w.heap.size W0.heap.size _ fs ((m.take k).map fun r=>zn9 r xs p) rfl HA2.out ⟨w4.heap.size,0,none⟩ 1 [.bool y.lo.neg,.slice A5 n5 c5,.int .i64 y.lo.e,.bool y.hi.neg,.slice B5 m5 d5,.int .i64 y.hi.e,.bool y.all] y rfl rfl ?c1 ?c2 ?c3 ?c4 wr.heap.size (w4.heap.size+1) ?c5 ?c6 HOW.out ?c7 ?_))
    case c1=>
     intro j u hj;rw [zEM]
     match j,hj with
     | 0,hj=>simp at hj;subst hj;simp
     | 1,hj=>simp at hj;subst hj;simp
     | 2,hj=>simp at hj;subst hj;simp
     | 3,hj=>simp at hj;subst hj;simp
     | 4,hj=>simp at hj;subst hj;simp
     | 5,hj=>simp at hj;subst hj;simp
     | 6,hj=>simp at hj;subst hj;simp
     | n+7,hj=>simp at hj
    case c2=>intro u hu;simp at hu;rcases hu with rfl | rfl | rfl | rfl | rfl | rfl | rfl <;> rfl
    case c3=>omega
    case c4=>simp;omega
    case c5=>omega
    case c6=>simp
    case c7=>exact fun W h1 h2=>HLY.out W (by simpa using h1) (fun b hb1 hb2=>h2 b hb1 (by simpa using hb2))
    intro v' w5 hacc hb6;have HA3:=Zh hacc;have HB5:=Zh ((zAA HB.out HBB.out).trans hb6);clear hacc hb6;go_wp2_with fail
    go_roundw
    case rel=>exact ⟨k+1,_,by omega,by go_num,HB5.out,by unfold Hid;rw [HT.out];have h:=HA3.out;rw [<- List.map_take] at h;exact h⟩
    case measure=>simp [intOf];omega
   ·obtain rfl:mn=k:=by omega
    have hmt:m.take mn=m:=Xe (by rw [hlm];exact Ya _);rw [hmt] at HA;obtain ⟨A3,c3,rfl,hly⟩:=HA.out.ly;have hml:(m.map fun r=>zn9 r xs p).length=mn:=by rw [Xf,hlm]
    rw [hml] at hly HA ⊢;have HLY:=Zh hly;clear hly HA;go_wp2_with fail
    go_ret2
    exact ⟨A3,c3,rfl,HLY.out,zAA HB0.out HB.out⟩
theorem zox (p:Int) (A B:Option Addr) (n c m d:Nat) (xs ys:List Iv) (w:World) (h:Sl 7 RI w A n c xs) (h':Sl 7 RI w B m d ys) (hn1:1<=n) (hn:n<=1000) (hnm:n<=m) (hx:∀x∈xs,BdI x) (hy:∀x∈ys,BdI x) (ht:zBx w) :
  Calls Tryz.prog 80 #[.slice A n c,.slice B m d,.int .i64 p] w fun e w'=>∃A' c',e=.returned (.slice A' n c')/\Ly w.heap.size w' (fun W=>Sl 7 RI W A' n c' (List.zipWith (fun x y=>znT x y p) xs ys))/\Below w.heap.size w w':=by
 obtain ⟨b,off,x0,vs0,rfl,hbl,-,-,-,-⟩:=h.get hn1;obtain ⟨b2,off2,z0,vs1,rfl,hbl2,-,-,-,-⟩:=h'.get (show 0<m by omega);have hcap:=h.cap;have hmax:=h.max;have hcap2:=h'.cap;have hmax2:=h'.max;have hzl:(List.zipWith (fun x y=>znT x y p) xs ys).length=n:=by rw [List.length_zipWith,h.len,h'.len];omega
 have HX:=Zh h;have HY:=Zh h';have HBX:=Zh hx;have HBY:=Zh hy;have HT:=Zh ht;clear h h' hx hy ht;go_enter Tryz.func80,Tryz.ntmps80
 go_wp2_with fail
 go_loopw [7,11] (fun v i wr=>∃ (k:Nat) (fs:List (List Value)),k<=n/\i=.int .i64 k/\Hid (Below w.heap.size w wr)/\Hid (Acc 43 7 RI w.heap.size w.heap.size wr v fs ((List.zipWith (fun x y=>znT x y p) xs ys).take k))) (fun _ i _=>n - (intOf i).toNat)
 case atStart=>exact ⟨0,[],by omega,rfl,Yp _ _,by simpa [Hid] using Acc.nil 43 7 RI (Ya _) w⟩
 case round=>
  obtain ⟨k,fs,hk,rfl,HB,HA⟩:=hrel;by_cases hlt:k<n
  ·have hlt2:k<m:=by omega
   obtain ⟨x,us,-,hx1,hu7,hR,hc⟩:=HX.out.get' hlt;obtain ⟨z,us2,-,hz1,hu72,hR2,hc2⟩:=HY.out.get' hlt2;obtain ⟨A1,n1,c1,B1,m1,d1,rfl,hs1,hs2⟩:=hR;obtain ⟨A6,n6,c6,B6,m6,d6,rfl,hs3,hs4⟩:=hR2;have s0:=hc 0 _ rfl;have s1:=hc 1 _ rfl;have s2:=hc 2 _ rfl;have s3:=hc 3 _ rfl;have s4:=hc 4 _ rfl;have s5:=hc 5 _ rfl;have s6:=hc 6 _ rfl;have t0:=hc2 0 _ rfl;have t1:=hc2 1 _ rfl;have t2:=hc2 2 _ rfl;have t3:=hc2 3 _ rfl;have t4:=hc2 4 _ rfl;have t5:=hc2 5 _ rfl;have t6:=hc2 6 _ rfl;have HAD:=Zh (fun W (hb:Below w.heap.size w W)=>zoR x z p A1 B1 A6 B6 n1 c1 m1 d1 n6 c6 m6 d6 W (hs1.below hb) (hs2.below hb) (hs3.below hb) (hs4.below hb) (HBX.out x (Yk hx1)) (HBY.out z (Yk hz1)) (HT.out.next hb));have HTk:Hid ((List.zipWith (fun x y=>znT x y p) xs ys).take (k+1)=(List.zipWith (fun x y=>znT x y p) xs ys).take k++[znT x z p]):=by
    unfold Hid;rw [List.take_add_one,List.getElem?_zipWith,hx1,hz1];rfl
   generalize znT x z p=y at *;have hfl:fs.length<=1000:=by have:=HA.out.len;rw [Yr] at this;omega
   have hB:=zBw wr;have HK:Hid (∀V,Below wr.heap.size wr V->(fun W=>(W.cell? ⟨b,off+k*7,none⟩=some (.bool x.lo.neg)/\W.cell? ⟨b,off+k*7+1,none⟩=some (.slice A1 n1 c1)/\W.cell? ⟨b,off+k*7+2,none⟩=some (.int .i64 x.lo.e)/\W.cell? ⟨b,off+k*7+3,none⟩=some (.bool x.hi.neg)/\W.cell? ⟨b,off+k*7+4,none⟩=some (.slice B1 m1 d1)/\W.cell? ⟨b,off+k*7+5,none⟩=some (.int .i64 x.hi.e)/\W.cell? ⟨b,off+k*7+6,none⟩=some (.bool x.all))/\W.cell? ⟨b2,off2+k*7,none⟩=some (.bool z.lo.neg)/\W.cell? ⟨b2,off2+k*7+1,none⟩=some (.slice A6 n6 c6)/\W.cell? ⟨b2,off2+k*7+2,none⟩=some (.int .i64 z.lo.e)/\W.cell? ⟨b2,off2+k*7+3,none⟩=some (.bool z.hi.neg)/\W.cell? ⟨b2,off2+k*7+4,none⟩=some (.slice B6 m6 d6)/\W.cell? ⟨b2,off2+k*7+5,none⟩=some (.int .i64 z.hi.e)/\W.cell? ⟨b2,off2+k*7+6,none⟩=some (.bool z.all)) V):=fun V hV=>by
    have hV2:=zAA HB.out hV;have q0:=(hV2.cell (p:=⟨b,off+k*7,none⟩) hbl).trans s0;have q1:=(hV2.cell (p:=⟨b,off+k*7+1,none⟩) hbl).trans s1;have q2:=(hV2.cell (p:=⟨b,off+k*7+2,none⟩) hbl).trans s2;have q3:=(hV2.cell (p:=⟨b,off+k*7+3,none⟩) hbl).trans s3;have q4:=(hV2.cell (p:=⟨b,off+k*7+4,none⟩) hbl).trans s4;have q5:=(hV2.cell (p:=⟨b,off+k*7+5,none⟩) hbl).trans s5;have q6:=(hV2.cell (p:=⟨b,off+k*7+6,none⟩) hbl).trans s6;have r0:=(hV2.cell (p:=⟨b2,off2+k*7,none⟩) hbl2).trans t0;have r1:=(hV2.cell (p:=⟨b2,off2+k*7+1,none⟩) hbl2).trans t1;have r2:=(hV2.cell (p:=⟨b2,off2+k*7+2,none⟩) hbl2).trans t2;have r3:=(hV2.cell (p:=⟨b2,off2+k*7+3,none⟩) hbl2).trans t3;have r4:=(hV2.cell (p:=⟨b2,off2+k*7+4,none⟩) hbl2).trans t4;have r5:=(hV2.cell (p:=⟨b2,off2+k*7+5,none⟩) hbl2).trans t5;have r6:=(hV2.cell (p:=⟨b2,off2+k*7+6,none⟩) hbl2).trans t6;exact ⟨⟨q0,q1,q2,q3,q4,q5,q6⟩,r0,r1,r2,r3,r4,r5,r6⟩
   have HKp:=Zh (HK.out _ hB);clear s0 s1 s2 s3 s4 s5 s6 t0 t1 t2 t3 t4 t5 t6 hc hc2 hu7 hu72 hx1 hz1 hs1 hs2 hs3 hs4;go_upto_region 5 with fail
   refine wp_region_held_drew (S:=(fun W=>(W.cell? ⟨b,off+k*7,none⟩=some (.bool x.lo.neg)/\W.cell? ⟨b,off+k*7+1,none⟩=some (.slice A1 n1 c1)/\W.cell? ⟨b,off+k*7+2,none⟩=some (.int .i64 x.lo.e)/\W.cell? ⟨b,off+k*7+3,none⟩=some (.bool x.hi.neg)/\W.cell? ⟨b,off+k*7+4,none⟩=some (.slice B1 m1 d1)/\W.cell? ⟨b,off+k*7+5,none⟩=some (.int .i64 x.hi.e)/\W.cell? ⟨b,off+k*7+6,none⟩=some (.bool x.all))/\W.cell? ⟨b2,off2+k*7,none⟩=some (.bool z.lo.neg)/\W.cell? ⟨b2,off2+k*7+1,none⟩=some (.slice A6 n6 c6)/\W.cell? ⟨b2,off2+k*7+2,none⟩=some (.int .i64 z.lo.e)/\W.cell? ⟨b2,off2+k*7+3,none⟩=some (.bool z.hi.neg)/\W.cell? ⟨b2,off2+k*7+4,none⟩=some (.slice B6 m6 d6)/\W.cell? ⟨b2,off2+k*7+5,none⟩=some (.int .i64 z.hi.e)/\W.cell? ⟨b2,off2+k*7+6,none⟩=some (.bool z.all))) (by kernel_rfl) (HKp.out) (fun hH=>?_);generalize wr.drew=Wd at *;refine tkh 0 hH ?_;refine tkh 1 hH ?_;refine tkh 2 hH ?_;refine tkh 3 hH ?_;refine tkh 4 hH ?_;refine tkh 5 hH ?_;refine tkh 6 hH ?_;refine tkh 7 hH ?_;refine tkh 8 hH ?_;refine tkh 9 hH ?_;simp only [Act.put,sT,sZ,sS];refine rdh 10 (fun K hK=>?_)
   go_simp
   refine (HAD.out _ (zAA HB.out hB)).mono ?_;rintro e3 V1 ⟨A5,n5,c5,B5,m5,d5,rfl,hs5,hs6,hff,hc⟩
   have hzd:=hB.size;have hzd2:=hc.size;have HLY0:=Zh ((zqB hs5 hs6 hff).up (Ya _) hB.size (fun b _ _=>rfl));replace hB:=zAA hB hc;replace HKp:=Zh (HK.out _ hB);clear hc hs5 hs6 hff;go_wp2_with fail
   refine hK.out _ _ (HKp.out) (fun hH=>?_);clear hK K;refine rdh 11 (fun K hK=>?_)
   go_simp
   have hn1:=zAE V1 (.cells #[.bool y.lo.neg,.slice A5 n5 c5,.int .i64 y.lo.e,.bool y.hi.neg,.slice B5 m5 d5,.int .i64 y.hi.e,.bool y.all] 43);have HNB:Hid (Blk (V1.alloc (.cells #[.bool y.lo.neg,.slice A5 n5 c5,.int .i64 y.lo.e,.bool y.hi.neg,.slice B5 m5 d5,.int .i64 y.hi.e,.bool y.all] 43)) V1.heap.size 43 #[.bool y.lo.neg,.slice A5 n5 c5,.int .i64 y.lo.e,.bool y.hi.neg,.slice B5 m5 d5,.int .i64 y.hi.e,.bool y.all]):=Blk.new V1 _ _;have hsx:V1.heap.size+1<=(V1.alloc (.cells #[.bool y.lo.neg,.slice A5 n5 c5,.int .i64 y.lo.e,.bool y.hi.neg,.slice B5 m5 d5,.int .i64 y.hi.e,.bool y.all] 43)).heap.size:=by simp
   have HLY1:=Zh (HLY0.out.up hn1.size (Ya _) (fun b _ hb=>hn1.block b hb));replace hB:=zAA hB hn1;replace HKp:=Zh (HK.out _ hB);clear hn1;generalize (V1.alloc (.cells #[.bool y.lo.neg,.slice A5 n5 c5,.int .i64 y.lo.e,.bool y.hi.neg,.slice B5 m5 d5,.int .i64 y.hi.e,.bool y.all] 43))=wX at *;refine hK.out _ _ (HKp.out) (fun hH=>?_);clear hK K;refine rdh 12 (fun K hK=>?_);have hzA:=HB.out.size;have hzB:=hB.size;have HA2:=Zh (HA.out.keep hB.size (fun b _ hb=>hB.block b hb));have HOW:Hid (∀o,_=some o->o<wr.heap.size\/wX.heap.size<=o):=fun o ho=>.inl (HA.out.own.lt o ho).2
   refine zGL rfl _ _ 24 rfl 43 7 88 _ zQG rfl (by omega) (by omega) Tryz.underlying24 w.heap.size w.heap.size _ fs ((List.zipWith (fun x y=>znT x y p) xs ys).take k) rfl HA2.out ⟨V1.heap.size,0,none⟩ 1 [.bool y.lo.neg,.slice A5 n5 c5,.int .i64 y.lo.e,.bool y.hi.neg,.slice B5 m5 d5,.int .i64 y.hi.e,.bool y.all] y rfl rfl ?c1 ?c2 ?c3 ?c4 wr.heap.size wX.heap.size ?c5 ?c6 HOW.out ?c7 ?_
   case c1=>
    intro j u hj;rw [zEM,Blk.cell HNB.out]
    simpa using hj
   case c2=>intro u hu;simp at hu;rcases hu with rfl | rfl | rfl | rfl | rfl | rfl | rfl <;> rfl
   case c3=>omega
   case c4=>omega
   case c5=>omega
   case c6=>omega
   case c7=>exact fun W h1 h2=>HLY1.out W h1 (fun b hb1 hb2=>h2 b hb1 hb2)
   intro v' w3 hacc hb3 hg3;have HA3:=Zh hacc;have HB3:=Zh ((zAA HB.out hB).trans hb3);have hbl3:b<w3.heap.size:=Yh hbl HB3.out.size;have HKq:Hid ((fun W=>(W.cell? ⟨b,off+k*7,none⟩=some (.bool x.lo.neg)/\W.cell? ⟨b,off+k*7+1,none⟩=some (.slice A1 n1 c1)/\W.cell? ⟨b,off+k*7+2,none⟩=some (.int .i64 x.lo.e)/\W.cell? ⟨b,off+k*7+3,none⟩=some (.bool x.hi.neg)/\W.cell? ⟨b,off+k*7+4,none⟩=some (.slice B1 m1 d1)/\W.cell? ⟨b,off+k*7+5,none⟩=some (.int .i64 x.hi.e)/\W.cell? ⟨b,off+k*7+6,none⟩=some (.bool x.all))/\W.cell? ⟨b2,off2+k*7,none⟩=some (.bool z.lo.neg)/\W.cell? ⟨b2,off2+k*7+1,none⟩=some (.slice A6 n6 c6)/\W.cell? ⟨b2,off2+k*7+2,none⟩=some (.int .i64 z.lo.e)/\W.cell? ⟨b2,off2+k*7+3,none⟩=some (.bool z.hi.neg)/\W.cell? ⟨b2,off2+k*7+4,none⟩=some (.slice B6 m6 d6)/\W.cell? ⟨b2,off2+k*7+5,none⟩=some (.int .i64 z.hi.e)/\W.cell? ⟨b2,off2+k*7+6,none⟩=some (.bool z.all)) w3):=by
    have hcb:∀ (g i:Nat),g<w.heap.size->w3.cell? ⟨g,i,none⟩=wX.cell? ⟨g,i,none⟩:=fun g i hg=>World.cell?_of_block (hb3.block g hg)
    obtain ⟨⟨q0,q1,q2,q3,q4,q5,q6⟩,r0,r1,r2,r3,r4,r5,r6⟩:=HKp.out;exact ⟨⟨(hcb _ _ hbl).trans q0,(hcb _ _ hbl).trans q1,(hcb _ _ hbl).trans q2,(hcb _ _ hbl).trans q3,(hcb _ _ hbl).trans q4,(hcb _ _ hbl).trans q5,(hcb _ _ hbl).trans q6⟩,(hcb _ _ hbl2).trans r0,(hcb _ _ hbl2).trans r1,(hcb _ _ hbl2).trans r2,(hcb _ _ hbl2).trans r3,(hcb _ _ hbl2).trans r4,(hcb _ _ hbl2).trans r5,(hcb _ _ hbl2).trans r6⟩
   replace HKp:=HKq;clear hacc hb3 hg3 HKq;refine hK.out _ _ (HKp.out) (fun hH=>?_);clear hK K;refine tkh 13 hH ?_;simp only [Act.put,sT,sZ,sS];refine wpAnyH_done (by kernel_rfl) ?_ _;go_wp2_with fail
   go_roundw
   case rel=>exact ⟨k+1,_,by omega,by go_num,HB3.out,by unfold Hid;rw [HTk.out];exact HA3.out⟩
   case measure=>simp [intOf];omega
  ·obtain rfl:n=k:=by omega
   have hmt:(List.zipWith (fun x y=>znT x y p) xs ys).take n=List.zipWith (fun x y=>znT x y p) xs ys:=Xe (by rw [hzl];exact Ya _);rw [hmt] at HA;obtain ⟨A3,c3,rfl,hly⟩:=HA.out.ly;rw [hzl] at hly HA ⊢;have HLY:=Zh hly;clear hly HA;go_wp2_with fail
   go_ret;exact ⟨A3,c3,rfl,HLY.out,HB.out⟩
section
variable {P:Program}{α:Type}{R:World->List Value->α->Prop}
theorem zoK {w:World}{ops:Array Oper}{rest:List Oper}{o:Oper}{a:Act}{Q:Exit->Act->World->Prop}(hgd:o.guard=none) (s x:Operand) (t:TypeId)
  (ho:o.op=.call { callee:=.builtin .append,args:=#[s,x],argTypes:=#[t,t] })
  (e:TypeId) (k bytes:Nat) (z:Value) (hinfo:(P.info? e).map (fun i=>(i.zero,i.size,i.bytes))=some (some z,k,bytes)) (hz:z.cells.size=k) (hk:0<k) (hby:bytes<=1000) (ht:P.underlying t=some (.slice e))
  (lo base:Nat) (v:Value) (fs:List (List Value)) (xs:List α) (hs:a.eval s=v) (hacc:zmc e k R lo base w v fs xs)
  (ad:Addr) (c:Nat) (f:List Value) (y:α) (hx:a.eval x=.slice (some ad) 1 c) (hn:f.length=k) (hc:∀ (j:Nat) (u:Value),f[j]? = some u->w.cell? (ad.add j)=some u) (h1:∀u∈f,u.oneCell' = true)
  (hlen:fs.length<=1000000) (hbase:base<=w.heap.size) (hlo:lo<=w.heap.size) (hR:On lo (fun b=>b<lo) w (fun W=>R W f y))
  (h:∀v' w',zmc e k R lo base w' v' (fs++[f]) (xs++[y])->Below base w w'->wpList P ops Q rest (a.put o.dst v') w'):wpList P ops Q (o::rest) a w:=by
 obtain ⟨i,hi,hz',hsize,hb'⟩:=info_parts hinfo;refine wpList_append_own_at _ hgd s x t ho base e i z k bytes ht hi hz' hsize hb' hz hk v fs.length fs.flatten hs hacc.own.own ad 1 c f hx (by omega) hc h1 (by simp only [maxLen];omega) ?_ hbase (fun v' w' h2 h3 _ _=>?_)
 ·exact Yq (Nat.mul_le_mul (show fs.length+1<=1000001 by omega) hby) (by omega)
 ·exact h v' w' (hacc.next hlo h2 h3 hn hR) ((Yp _ _).grown h3 hbase (fun k hk=>(hacc.lt k hk).1))
end
theorem zog (us:List Value) (d:Dy) (w:World) (h:RD w us d) (hd:Bd d):Calls Tryz.prog 237 (#[.agg us.toArray]++#[]) w (zBW (!vld d) w):=by
 rw [Array.append_empty];obtain ⟨A1,n1,c1,rfl,hs1⟩:=h;have hb0:=zAE w (.cells #[.bool d.neg,.slice A1 n1 c1,.int .i64 d.e] 41);have HC:=Zh (zEl [.bool d.neg,.slice A1 n1 c1,.int .i64 d.e] d _ (zAQ _ _ _ _ ⟨A1,n1,c1,rfl,hs1⟩ hb0) hd);obtain ⟨p0,p1,p2⟩:=(Blk.new w 41 #[.bool d.neg,.slice A1 n1 c1,.int .i64 d.e]).cells3;clear hs1 hd;go_enter Tryz.func237,Tryz.ntmps237
 go_wp2_with fail
 generalize w.alloc (.cells #[.bool d.neg,.slice A1 n1 c1,.int .i64 d.e] 41)=W0 at *;refine HC.out.mono ?_;rintro e w1 ⟨rfl,hb1⟩
 have hb2:=zAA hb0 hb1;generalize vld d=v at *;cases v
 all_goals
  go_wp2_with fail
  go_ret;exact ⟨rfl,hb2⟩
theorem zo7 (A:Option Addr) (n c:Nat) (l:List Dy) (w:World) (h:Sl 3 RD w A n c l) (h1:1<=n) (h8:n<=8) (ho:∀d∈l,vld d=true/\Bd d):Calls Tryz.prog 165 #[.slice A n c] w (zBW true w):=by
 have hcap:=h.cap;have hmax:=h.max;have hfalse:l.any (fun d=>!vld d)=false:=by
  rw [List.any_eq_false];intro d hd;rw [(ho d hd).1];exact Bool.false_ne_true
 have HC:=Zh (zCA (fun d=>!vld d) 237 #[] A n c l w h (zCQ Tryz.func237 (by kernel_rfl) rfl) (fun V us d hb2 hmem hr=>zog us d V hr (ho d hmem).2));rw [hfalse] at HC;clear h ho hfalse;go_enter Tryz.func165,Tryz.ntmps165
 go_wp2_with fail
 refine HC.out.mono ?_;rintro e w1 ⟨rfl,hb1⟩
 go_wp2_with fail
 go_ret;exact ⟨rfl,hb1⟩
theorem znh (x:Dy) (A:Option Addr) (n c:Nat) (w:World) (h:SL w A n c x.l) (hx:Bd x) (hv:vld x=true):Calls Tryz.prog 163 #[.agg #[.bool x.neg,.slice A n c,.int .i64 x.e]] w fun e w'=>e=.returned (.agg #[.bool x.neg,.slice A n c,.int .i64 x.e,.bool x.neg,.slice A n c,.int .i64 x.e,.bool false])/\Below w.heap.size w w':=by
 obtain ⟨W0,eW,hb0,ka,kr⟩:=al2 w #[.bool x.neg,.slice A n c,.int .i64 x.e] 41 #[.bool false,.slice none 0 0,.int .i64 0,.bool false,.slice none 0 0,.int .i64 0,.bool false] 43;have HC:=Zh (zEl [.bool x.neg,.slice A n c,.int .i64 x.e] x _ ⟨A,n,c,rfl,h.below hb0⟩ hx);rw [hv] at HC;obtain ⟨p0,p1,p2⟩:=ka.cells3;clear h hx hv;go_enter Tryz.func163,Tryz.ntmps163
 go_wp2_with fail
 clear eW;have HB0:=Zh hb0;have HKA:=Zh ka;have HKR:=Zh kr;clear ka kr hb0 p0 p1 p2;refine HC.out.mono ?_;rintro e w1 ⟨rfl,hb1⟩
 have HB1:=Zh hb1;clear hb1 HC;obtain ⟨p0,p1,p2⟩:=(HKA.out.next HB1.out).cells3;have kr:=HKR.out.next HB1.out;obtain ⟨r0,r1,r2,r3,r4,r5,r6⟩:=kr.cells7;have f0:=kr.frozen 0;have f1:=kr.frozen 1;have f2:=kr.frozen 2;have f3:=kr.frozen 3;have f4:=kr.frozen 4;have f5:=kr.frozen 5;have f6:=kr.frozen 6;have HKR2:=Zh kr;clear kr;go_wp2_with fail
 exact Yn (zqA Tryz.results163 rfl (HKR2.out.set7 _ _ _ _ _ _ _)) rfl ⟨rfl,zC0 (zAA HB0.out HB1.out) (by omega) _ _ _ _ _ _ _⟩
theorem zoh (A:Option Addr) (n c:Nat) (l:List Dy) (w:World) (h:Sl 3 RD w A n c l) (h1:1<=n) (h8:n<=8) (ho:∀d∈l,vld d=true/\Bd d) :
  Calls Tryz.prog 81 #[.slice A n c] w fun e w'=>∃A' c',e=.returned (.slice A' n c')/\Sl 7 RI w' A' n c' (l.map fun d=>⟨d,d,false⟩)/\Below w.heap.size w w':=by
 have HPT:=Zh (zo7 A n c l w h h1 h8 ho);have hcap:=h.cap;have hmax:=h.max;have hln:=h.len;obtain ⟨b,off,d0,vs0,rfl,hbl,-,-,-,-⟩:=h.get h1;have HH:=Zh h;have HO:=Zh ho;clear h ho;go_enter Tryz.func81,Tryz.ntmps81
 go_wp2_with fail
 refine HPT.out.mono ?_;rintro e w1 ⟨rfl,hb1⟩
 have HB1:=Zh hb1;have hz1:=hb1.size;clear hb1 HPT;go_wp2_with fail
 go_loopw [3,11] (fun v i wr=>∃ (k:Nat) (fs:List (List Value)),k<=n/\i=.int .i64 k/\Hid (Below w.heap.size w wr)/\Hid (zmc 43 7 RI w.heap.size w.heap.size wr v fs ((l.take k).map fun d=>⟨d,d,false⟩))) (fun _ i _=>n - (intOf i).toNat)
 case atStart=>exact ⟨0,[],by omega,rfl,HB1.out,zmc.nil _ _ _ (Ya _) _⟩
 case round=>
  obtain ⟨k,fs,hk,rfl,HB,HA⟩:=hrel;by_cases hlt:k<n
  ·obtain ⟨d,us,-,hd1,hu3,hR,hc⟩:=HH.out.get' hlt
   have hdm:=Yk hd1;have hR0:=hR;obtain ⟨A1,n1,c1,rfl,hs1⟩:=hR;have q0:=(HB.out.cell (p:=⟨b,off+k*3,none⟩) hbl).trans (hc 0 _ rfl);have q1:=(HB.out.cell (p:=⟨b,off+k*3+1,none⟩) hbl).trans (hc 1 _ rfl);have q2:=(HB.out.cell (p:=⟨b,off+k*3+2,none⟩) hbl).trans (hc 2 _ rfl);have hbA:=zAE wr (.cells #[.bool d.neg,.slice A1 n1 c1,.int .i64 d.e] 41);have HC:=Zh (znh d A1 n1 c1 _ (hs1.below (zAA HB.out hbA)) (HO.out d hdm).2 (HO.out d hdm).1);have HT:Hid ((l.take (k+1)).map (fun d=>(⟨d,d,false⟩:Iv))=(l.take k).map (fun d=>(⟨d,d,false⟩:Iv))++[⟨d,d,false⟩]):=by unfold Hid;rw [List.take_add_one,hd1];simp
   have HON:Hid (On w.heap.size (fun b=>b<w.heap.size) w (fun W=>RI W [.bool d.neg,.slice A1 n1 c1,.int .i64 d.e,.bool d.neg,.slice A1 n1 c1,.int .i64 d.e,.bool false] ⟨d,d,false⟩)):=(zeL zAQ zSP hR0).imp (fun W h=>by
    obtain ⟨A',n',c',e,h2⟩:=h;simp at e;obtain ⟨rfl,rfl,rfl⟩:=e;exact ⟨_,_,_,_,_,_,rfl,h2,h2⟩)
   have hfl:fs.length<=1000:=by have:=HA.out.len;rw [Xf,Yr] at this;omega
   clear hc hu3 hd1 hs1 hR0 hdm;go_wp2_with fail
   clear q0 q1 q2;generalize wr.alloc (.cells #[.bool d.neg,.slice A1 n1 c1,.int .i64 d.e] 41)=W0 at *;refine HC.out.mono ?_;rintro e w4 ⟨rfl,hb4⟩
   have hb5:=zAE w4 (.cells #[.bool d.neg,.slice A1 n1 c1,.int .i64 d.e,.bool d.neg,.slice A1 n1 c1,.int .i64 d.e,.bool false] 43);have hbB:=zAA hbA (zAA hb4 hb5);have HA2:=Zh (HA.out.below (by have:=HB.out.size;omega) hbB);have HON2:=Zh (HON.out.move (w':=w4.alloc (.cells #[.bool d.neg,.slice A1 n1 c1,.int .i64 d.e,.bool d.neg,.slice A1 n1 c1,.int .i64 d.e,.bool false] 43)) (fun b hb=>(zAA HB.out hbB).block b hb));have HBB:=Zh hbB;have hzB:=HB.out.size;have hzC:=hbA.size;have hzD:=hb4.size;clear hbA hb4 hb5 hbB HC HON
   go_wp2_with (at_builtin;go_loud (refine zoK rfl _ _ 24 rfl 43 7 88 _ zQG rfl (by omega) (by omega) Tryz.underlying24 w.heap.size w.heap.size _ fs ((l.take k).map fun d=>(⟨d,d,false⟩:Iv)) rfl HA2.out ⟨w4.heap.size,0,none⟩ 1 [.bool d.neg,.slice A1 n1 c1,.int .i64 d.e,.bool d.neg,.slice A1 n1 c1,.int .i64 d.e,.bool false] ⟨d,d,false⟩ rfl rfl ?c1 ?c2 ?c3 ?c4 ?c5 HON2.out ?_))
   case c1=>
    intro j u hj;rw [zEM]
    match j,hj with
    | 0,hj=>simp at hj;subst hj;simp
    | 1,hj=>simp at hj;subst hj;simp
    | 2,hj=>simp at hj;subst hj;simp
    | 3,hj=>simp at hj;subst hj;simp
    | 4,hj=>simp at hj;subst hj;simp
    | 5,hj=>simp at hj;subst hj;simp
    | 6,hj=>simp at hj;subst hj;simp
    | n+7,hj=>simp at hj
   case c2=>intro u hu;simp at hu;rcases hu with rfl | rfl | rfl | rfl | rfl | rfl | rfl <;> rfl
   case c3=>omega
   case c4=>simp;omega
   case c5=>simp;omega
   intro v' w5 hacc hb6;have HA3:=Zh hacc;have HB5:=Zh ((zAA HB.out HBB.out).trans hb6);clear hacc hb6;go_wp2_with fail
   go_roundw
   case rel=>exact ⟨k+1,_,by omega,by go_num,HB5.out,by unfold Hid;rw [HT.out];have h:=HA3.out;rw [<- List.map_take] at h;exact h⟩
   case measure=>simp [intOf];omega
  ·obtain rfl:n=k:=by omega
   have hmt:l.take n=l:=Xe (by rw [hln];exact Ya _);rw [hmt] at HA;obtain ⟨A3,c3,rfl,hsl⟩:=HA.out.sl HB.out.size;rw [Xf,hln] at hsl HA ⊢;have HSL:=Zh hsl;clear hsl HA;go_wp2_with fail
   go_ret;exact ⟨A3,c3,rfl,HSL.out,HB.out⟩
def zph (a b:List Iv):Bool:=zEO a && zEO b && decide (a.length=b.length) && eqF ins a b
theorem zpN (vs us:List Value) (x y:Iv) (w:World) (h:RI w vs x) (h':RI w us y) (hx:BdI x) (hy:BdI y):Calls Tryz.prog 66 (#[.agg vs.toArray,.agg us.toArray]++#[]) w (zBW (ins x y) w):=by
 rw [Array.append_empty];exact zHy vs us x y w h h' hx hy
theorem znl (A B:Option Addr) (n c m d:Nat) (l l':List Iv) (w:World) (h:Sl 7 RI w A n c l) (h':Sl 7 RI w B m d l') (hx:∀x∈l,BdI x) (hy:∀x∈l',BdI x):Calls Tryz.prog 64 #[.slice A n c,.slice B m d] w (zBW (zph l l') w):=by
 have H1:=Zh (zMg A B n c m d l l' w h h' hx hy);have H2:=Zh (fun W (hb:Below w.heap.size w W)=>zKt ins 66 #[] A B n c m d l l' W (h.next zAX hb) (h'.next zAX hb) (zCQ Tryz.func66 (by kernel_rfl) rfl) (fun V us vs x y _ hm hm' hr hr'=>zpN us vs x y V hr hr' (hx x hm) (hy y hm')));have HV:Hid (zph l l' = ((zEO l && zEO l' && decide (l.length=l'.length)) && eqF ins l l')):=rfl;generalize (zEO l && zEO l' && decide (l.length=l'.length))=b1 at *;generalize eqF ins l l' = b2 at *;generalize zph l l' = r at *;clear h h' hx hy;go_enter Tryz.func64,Tryz.ntmps64
 go_wp2_with fail
 refine H1.out.mono ?_;rintro e w1 ⟨rfl,hb1⟩
 cases b1
 ·go_wp2_with fail
  go_ret;exact ⟨by rw [HV.out];rfl,hb1⟩
 ·go_wp2_with fail
  refine (H2.out _ hb1).mono ?_;rintro e w2 ⟨rfl,hb2⟩
  go_wp2_with fail
  go_ret;exact ⟨by rw [HV.out];rfl,zAA hb1 hb2⟩
theorem zVR:∀W vs (x:Iv),RI W vs x->vs[0]? ≠ some (.int .u32 7):=by
 rintro W vs x ⟨A,n,c,B,m,d,rfl,_,_⟩
 simp
def mtK (a b:List Iv):Nat->Option (List Iv)
 | 0=>some []
 | k+1=>match mtK a b k,a[k]?,b[k]? with
  | some l,some x,some y=>(znc x y).map (fun z=>l++[z])
  | _,_,_=>none
def mtB (a b:List Iv):Option (List Iv):=if (zEO a && zEO b && decide (a.length=b.length))=true then mtK a b a.length else none
theorem zpS {a b:List Iv}{k:Nat}(h:mtK a b k=none):∀j,mtK a b (k+j)=none:=by
 intro j
 induction j with
 | zero=>exact h
 | succ j ih=>
  show mtK a b ((k+j)+1)=none
  unfold mtK;rw [ih]
theorem zo5 {a b:List Iv}:∀ (k:Nat) (l:List Iv),mtK a b k=some l->l.length=k:=by
 intro k
 induction k with
 | zero=>intro l h;injection h with h;subst h;rfl
 | succ k ih=>
  intro l h;unfold mtK at h
  split at h
  ·rename_i l' x y h1 h2 h3
   cases hz:znc x y with
   | none=>rw [hz] at h;cases h
   | some z=>rw [hz] at h;injection h with h;subst h;rw [Yu,ih _ h1];rfl
  ·cases h
theorem zn7 (A B:Option Addr) (n c m d:Nat) (xs ys:List Iv) (w:World) (G:Nat->Prop) (hG:∀b,G b->b<w.heap.size) (ho:On w.heap.size G w (fun W=>Sl 7 RI W A n c xs)) (ho':On w.heap.size G w (fun W=>Sl 7 RI W B m d ys)) (hx:∀x∈xs,BdI x) (hy:∀x∈ys,BdI x) :
  Calls Tryz.prog 63 #[.slice A n c,.slice B m d] w fun e w'=>∃A' n' c',e=.returned (.tuple #[.slice A' n' c',.bool (mtB xs ys).isSome])/\On w'.heap.size (fun b=>b<w'.heap.size/\(G b\/w.heap.size<=b)) w' (fun W=>Sl 7 RI W A' n' c' ((mtB xs ys).getD []))/\Below w.heap.size w w':=by
 have h:=ho.here (Ya _);have h':=ho'.here (Ya _);have HXO:=Zh ho;have HYO:=Zh ho';have HGL:=Zh hG;have HTW:=Zh (zMg A B n c m d xs ys w h h' hx hy);have HV:Hid (mtB xs ys=if (zEO xs && zEO ys && decide (xs.length=ys.length))=true then mtK xs ys n else none):=by unfold Hid;rw [<- h.len];rfl
 have HLN:Hid ((zEO xs && zEO ys && decide (xs.length=ys.length))=true->1<=n/\n<=8/\n=m):=by
  intro ht;simp only [Yi,Xb] at ht;have h1:=ht.1.1;unfold zEO at h1;simp only [Yi,Xb] at h1;rw [h.len,h'.len] at ht;rw [h.len] at h1;exact ⟨h1.1.1,h1.1.2,ht.2⟩
 generalize (zEO xs && zEO ys && decide (xs.length=ys.length))=t at *;generalize mtB xs ys=PP at *;have hcap:=h.cap;have hmax:=h.max;have HX:=Zh h;have HY:=Zh h';have HBX:=Zh hx;have HBY:=Zh hy;clear h h' hx hy ho ho' hG;go_enter Tryz.func63,Tryz.ntmps63
 go_wp2_with fail
 refine HTW.out.mono ?_;rintro e w1 ⟨rfl,hb1⟩
 have HB1:=Zh hb1;clear hb1 HTW;cases t
 ·have HV2:Hid (PP=none):=HV.out
  go_wp2_with fail
  rw [HV2.out]
  go_ret2
  exact ⟨none,0,0,rfl,fun W _ _=>Sl.nil W,HB1.out⟩
 ·have HV2:Hid (PP=mtK xs ys n):=HV.out
  obtain ⟨hn1,hn8,rfl⟩:=HLN.out rfl;clear HV HLN;obtain ⟨b,off,x0,vs0,rfl,hbl,-,-,-,-⟩:=HX.out.get hn1;obtain ⟨b2,off2,z0,vs1,rfl,hbl2,-,-,-,-⟩:=HY.out.get hn1;have hcap2:=HY.out.cap;have hmax2:=HY.out.max;have hz1:=HB1.out.size;go_wp2_with fail
  go_loopw [6,16] (fun v i wr=>∃ (k:Nat) (fs:List (List Value)) (l:List Iv),k<=n/\i=.int .i64 k/\Hid (mtK xs ys k=some l)/\Hid (Below w.heap.size w wr)/\Hid (zHf 43 7 RI G w.heap.size wr v fs l)) (fun _ i _=>n - (intOf i).toNat)
  case atStart=>exact ⟨0,[],[],by omega,rfl,rfl,HB1.out,zHf.nil _ _ _ _ _⟩
  case round=>
   obtain ⟨k,fs,l,hk,rfl,HE,HB,HA⟩:=hrel;by_cases hlt:k<n
   ·obtain ⟨bq,oq,x,us,eq1,-,-,hx1,hu7,hc,hon⟩:=zOe HXO.out (by omega) zVR hlt
    obtain ⟨br,or_,z,us2,eq2,-,-,hz1',hu72,hc2,hon2⟩:=zOe HYO.out (by omega) zVR hlt;obtain ⟨rfl,rfl⟩:b=bq/\off=oq:=by simpa using eq1
    obtain ⟨rfl,rfl⟩:b2=br/\off2=or_:=by simpa using eq2
    have hR:=hon.here (Ya _);have hR2:=hon2.here (Ya _);obtain ⟨A1,n1,c1,B1,m1,d1,rfl,hs1,hs2⟩:=hR;obtain ⟨A6,n6,c6,B6,m6,d6,rfl,hs3,hs4⟩:=hR2;have HQ:Hid (On w.heap.size G w (fun W=>SL W none 0 0 [])/\On w.heap.size G w (fun W=>SL W A1 n1 c1 x.lo.l)/\On w.heap.size G w (fun W=>SL W B1 m1 d1 x.hi.l)/\On w.heap.size G w (fun W=>SL W A6 n6 c6 z.lo.l)/\On w.heap.size G w (fun W=>SL W B6 m6 d6 z.hi.l)):=by
     refine ⟨fun W _ _=>SL.nil W,hon.imp ?_,hon.imp ?_,hon2.imp ?_,hon2.imp ?_⟩
     all_goals
      rintro W ⟨A',n',c',B',m',d',e,h1,h2⟩
      simp at e;obtain ⟨⟨rfl,rfl,rfl⟩,rfl,rfl,rfl⟩:=e
      first | exact h1 | exact h2
    have s0:=hc 0 _ rfl;have s1:=hc 1 _ rfl;have s2:=hc 2 _ rfl;have s3:=hc 3 _ rfl;have s4:=hc 4 _ rfl;have s5:=hc 5 _ rfl;have s6:=hc 6 _ rfl;have t0:=hc2 0 _ rfl;have t1:=hc2 1 _ rfl;have t2:=hc2 2 _ rfl;have t3:=hc2 3 _ rfl;have t4:=hc2 4 _ rfl;have t5:=hc2 5 _ rfl;have t6:=hc2 6 _ rfl;have HMT:=Zh (fun W (hb:Below w.heap.size w W)=>zo2 x z A1 B1 A6 B6 n1 c1 m1 d1 n6 c6 m6 d6 W (hs1.below hb) (hs2.below hb) (hs3.below hb) (hs4.below hb) (HBX.out x (Yk hx1)) (HBY.out z (Yk hz1')));have HE1:Hid (mtK xs ys (k+1)=(znc x z).map (fun z=>l++[z])):=by unfold Hid;rw [mtK,HE.out,hx1,hz1']
    generalize znc x z=o at *;have hfl:fs.length<=1000:=by have h1:=HA.out.len;have h2:=zo5 k l HE.out;omega
    have hB:=zBw wr;have HK:Hid (∀V,Below wr.heap.size wr V->(fun W=>(W.cell? ⟨b,off+k*7,none⟩=some (.bool x.lo.neg)/\W.cell? ⟨b,off+k*7+1,none⟩=some (.slice A1 n1 c1)/\W.cell? ⟨b,off+k*7+2,none⟩=some (.int .i64 x.lo.e)/\W.cell? ⟨b,off+k*7+3,none⟩=some (.bool x.hi.neg)/\W.cell? ⟨b,off+k*7+4,none⟩=some (.slice B1 m1 d1)/\W.cell? ⟨b,off+k*7+5,none⟩=some (.int .i64 x.hi.e)/\W.cell? ⟨b,off+k*7+6,none⟩=some (.bool x.all))/\W.cell? ⟨b2,off2+k*7,none⟩=some (.bool z.lo.neg)/\W.cell? ⟨b2,off2+k*7+1,none⟩=some (.slice A6 n6 c6)/\W.cell? ⟨b2,off2+k*7+2,none⟩=some (.int .i64 z.lo.e)/\W.cell? ⟨b2,off2+k*7+3,none⟩=some (.bool z.hi.neg)/\W.cell? ⟨b2,off2+k*7+4,none⟩=some (.slice B6 m6 d6)/\W.cell? ⟨b2,off2+k*7+5,none⟩=some (.int .i64 z.hi.e)/\W.cell? ⟨b2,off2+k*7+6,none⟩=some (.bool z.all)) V):=fun V hV=>by
     have hV2:=zAA HB.out hV;have q0:=(hV2.cell (p:=⟨b,off+k*7,none⟩) hbl).trans s0;have q1:=(hV2.cell (p:=⟨b,off+k*7+1,none⟩) hbl).trans s1;have q2:=(hV2.cell (p:=⟨b,off+k*7+2,none⟩) hbl).trans s2;have q3:=(hV2.cell (p:=⟨b,off+k*7+3,none⟩) hbl).trans s3;have q4:=(hV2.cell (p:=⟨b,off+k*7+4,none⟩) hbl).trans s4;have q5:=(hV2.cell (p:=⟨b,off+k*7+5,none⟩) hbl).trans s5;have q6:=(hV2.cell (p:=⟨b,off+k*7+6,none⟩) hbl).trans s6;have r0:=(hV2.cell (p:=⟨b2,off2+k*7,none⟩) hbl2).trans t0;have r1:=(hV2.cell (p:=⟨b2,off2+k*7+1,none⟩) hbl2).trans t1;have r2:=(hV2.cell (p:=⟨b2,off2+k*7+2,none⟩) hbl2).trans t2;have r3:=(hV2.cell (p:=⟨b2,off2+k*7+3,none⟩) hbl2).trans t3;have r4:=(hV2.cell (p:=⟨b2,off2+k*7+4,none⟩) hbl2).trans t4;have r5:=(hV2.cell (p:=⟨b2,off2+k*7+5,none⟩) hbl2).trans t5;have r6:=(hV2.cell (p:=⟨b2,off2+k*7+6,none⟩) hbl2).trans t6;exact ⟨⟨q0,q1,q2,q3,q4,q5,q6⟩,r0,r1,r2,r3,r4,r5,r6⟩
    have HKp:=Zh (HK.out _ hB);clear s0 s1 s2 s3 s4 s5 s6 t0 t1 t2 t3 t4 t5 t6 hc hc2 hu7 hu72 hx1 hz1' hs1 hs2 hs3 hs4 hon hon2;go_upto_region 7 with fail
    go_cut [8,9] (fun s8 s9 wx=>∃ (g:Nat) (A5 B5:Option Addr) (n5 c5 m5 d5:Nat),s8=.pointer (some ⟨g,0,none⟩)/\s9=.bool o.isSome/\Blk wx g 43 #[.bool (o.getD ⟨zAZ,zAZ,false⟩).lo.neg,.slice A5 n5 c5,.int .i64 (o.getD ⟨zAZ,zAZ,false⟩).lo.e,.bool (o.getD ⟨zAZ,zAZ,false⟩).hi.neg,.slice B5 m5 d5,.int .i64 (o.getD ⟨zAZ,zAZ,false⟩).hi.e,.bool (o.getD ⟨zAZ,zAZ,false⟩).all]/\(On w.heap.size G w (fun W=>SL W A5 n5 c5 (o.getD ⟨zAZ,zAZ,false⟩).lo.l)/\On w.heap.size G w (fun W=>SL W B5 m5 d5 (o.getD ⟨zAZ,zAZ,false⟩).hi.l))/\wr.heap.size<=g/\Below wr.heap.size wr wx)
    case first=>
     refine wp_region_held_drew (S:=(fun W=>(W.cell? ⟨b,off+k*7,none⟩=some (.bool x.lo.neg)/\W.cell? ⟨b,off+k*7+1,none⟩=some (.slice A1 n1 c1)/\W.cell? ⟨b,off+k*7+2,none⟩=some (.int .i64 x.lo.e)/\W.cell? ⟨b,off+k*7+3,none⟩=some (.bool x.hi.neg)/\W.cell? ⟨b,off+k*7+4,none⟩=some (.slice B1 m1 d1)/\W.cell? ⟨b,off+k*7+5,none⟩=some (.int .i64 x.hi.e)/\W.cell? ⟨b,off+k*7+6,none⟩=some (.bool x.all))/\W.cell? ⟨b2,off2+k*7,none⟩=some (.bool z.lo.neg)/\W.cell? ⟨b2,off2+k*7+1,none⟩=some (.slice A6 n6 c6)/\W.cell? ⟨b2,off2+k*7+2,none⟩=some (.int .i64 z.lo.e)/\W.cell? ⟨b2,off2+k*7+3,none⟩=some (.bool z.hi.neg)/\W.cell? ⟨b2,off2+k*7+4,none⟩=some (.slice B6 m6 d6)/\W.cell? ⟨b2,off2+k*7+5,none⟩=some (.int .i64 z.hi.e)/\W.cell? ⟨b2,off2+k*7+6,none⟩=some (.bool z.all))) (by kernel_rfl) (HKp.out) (fun hH=>?_);generalize wr.drew=Wd at *;refine tkh 0 hH ?_;refine tkh 1 hH ?_;refine tkh 2 hH ?_;refine tkh 3 hH ?_;refine tkh 4 hH ?_;refine tkh 5 hH ?_;refine tkh 6 hH ?_;refine tkh 7 hH ?_;simp only [Act.put,sT,sZ,sS];refine Yj (rs:=[8,12]) (by kernel_rfl) (by simp) ?_;refine Yc (o:=⟨_,_,_,_,_,_⟩) rfl (fun K hK=>?_) ?_
     ·go_simp
      refine (HMT.out _ (zAA HB.out hB)).mono ?_;rintro e3 V1 ⟨A5,n5,c5,B5,m5,d5,rfl,hs5,hs6,hq,hc⟩
      have HQ5:=Zh (hq (fun A n c l=>On w.heap.size G w (fun W=>SL W A n c l)) HQ.out);replace hB:=zAA hB hc;replace HKp:=Zh (HK.out _ hB)
      try replace HG:=Zh (HG.out.next hc)
      clear hc hs5 hs6 hq;go_wp2_with fail
      refine hK.out _ _ (HKp.out) (fun hH=>?_);clear hK K;refine tkh 9 hH ?_;refine tkh 10 hH ?_;refine tkh 11 hH ?_;simp only [Act.put,sT,sZ,sS];refine rdh 12 (fun K hK=>?_)
      go_simp
      have HG:Hid (Blk (V1.alloc (.cells #[.bool false,.slice none 0 0,.int .i64 0,.bool false,.slice none 0 0,.int .i64 0,.bool false] 43)) V1.heap.size 43 #[.bool false,.slice none 0 0,.int .i64 0,.bool false,.slice none 0 0,.int .i64 0,.bool false]):=Blk.new _ _ _;have hc:=zAE V1 (.cells #[.bool false,.slice none 0 0,.int .i64 0,.bool false,.slice none 0 0,.int .i64 0,.bool false] 43);have hga:=hB.size;replace hB:=zAA hB hc;replace HKp:=Zh (HK.out _ hB);clear hc;generalize (V1.alloc (.cells #[.bool false,.slice none 0 0,.int .i64 0,.bool false,.slice none 0 0,.int .i64 0,.bool false] 43))=Y1 at *;refine hK.out _ _ (HKp.out) (fun hH=>?_);clear hK K;refine rdh 13 (fun K hK=>?_);obtain ⟨r0,r1,r2,r3,r4,r5,r6⟩:=HG.out.cells7;have f0:=HG.out.frozen 0;have f1:=HG.out.frozen 1;have f2:=HG.out.frozen 2;have f3:=HG.out.frozen 3;have f4:=HG.out.frozen 4;have f5:=HG.out.frozen 5;have f6:=HG.out.frozen 6
      go_simp
      clear r0 r1 r2 r3 r4 r5 r6 f0 f1 f2 f3 f4 f5 f6;have HG2:=Zh (HG.out.set7 (.bool (o.getD ⟨zAZ,zAZ,false⟩).lo.neg) (.slice A5 n5 c5) (.int .i64 (o.getD ⟨zAZ,zAZ,false⟩).lo.e) (.bool (o.getD ⟨zAZ,zAZ,false⟩).hi.neg) (.slice B5 m5 d5) (.int .i64 (o.getD ⟨zAZ,zAZ,false⟩).hi.e) (.bool (o.getD ⟨zAZ,zAZ,false⟩).all));have hgz:wr.heap.size<=V1.heap.size:=by omega
      have hbe:=zC0 hB hgz (.bool (o.getD ⟨zAZ,zAZ,false⟩).lo.neg) (.slice A5 n5 c5) (.int .i64 (o.getD ⟨zAZ,zAZ,false⟩).lo.e) (.bool (o.getD ⟨zAZ,zAZ,false⟩).hi.neg) (.slice B5 m5 d5) (.int .i64 (o.getD ⟨zAZ,zAZ,false⟩).hi.e) (.bool (o.getD ⟨zAZ,zAZ,false⟩).all);generalize (((((((Y1.setCell ⟨V1.heap.size,0,none⟩ (.bool (o.getD ⟨zAZ,zAZ,false⟩).lo.neg)).setCell ⟨V1.heap.size,1,none⟩ (.slice A5 n5 c5)).setCell ⟨V1.heap.size,2,none⟩ (.int .i64 (o.getD ⟨zAZ,zAZ,false⟩).lo.e)).setCell ⟨V1.heap.size,3,none⟩ (.bool (o.getD ⟨zAZ,zAZ,false⟩).hi.neg)).setCell ⟨V1.heap.size,4,none⟩ (.slice B5 m5 d5)).setCell ⟨V1.heap.size,5,none⟩ (.int .i64 (o.getD ⟨zAZ,zAZ,false⟩).hi.e)).setCell ⟨V1.heap.size,6,none⟩ (.bool (o.getD ⟨zAZ,zAZ,false⟩).all))=WE at *;replace HKp:=Zh (HK.out _ hbe);refine hK.out _ _ (HKp.out) (fun hH=>?_);clear hK K;refine tkh 14 hH ?_;simp only [Act.put,sT,sZ,sS];refine wpAnyH_done (by kernel_rfl) ?_ _;go_wp2_with fail
      go_meet
      exact ⟨_,A5,B5,n5,c5,m5,d5,rfl,rfl,HG2.out,HQ5.out,hgz,hbe⟩
     refine Yc (o:=⟨_,_,_,_,_,_⟩) rfl (fun K hK=>?_) Yd
     go_simp
     have HG:Hid (Blk (Wd.alloc (.cells #[.bool false,.slice none 0 0,.int .i64 0,.bool false,.slice none 0 0,.int .i64 0,.bool false] 43)) Wd.heap.size 43 #[.bool false,.slice none 0 0,.int .i64 0,.bool false,.slice none 0 0,.int .i64 0,.bool false]):=Blk.new _ _ _;have hc:=zAE Wd (.cells #[.bool false,.slice none 0 0,.int .i64 0,.bool false,.slice none 0 0,.int .i64 0,.bool false] 43);have hga:=hB.size;replace hB:=zAA hB hc;replace HKp:=Zh (HK.out _ hB);clear hc;generalize (Wd.alloc (.cells #[.bool false,.slice none 0 0,.int .i64 0,.bool false,.slice none 0 0,.int .i64 0,.bool false] 43))=Y2 at *;refine hK.out _ _ (HKp.out) (fun hH=>?_);clear hK K;refine rdh 8 (fun K hK=>?_)
     go_simp
     refine (HMT.out _ (zAA HB.out hB)).mono ?_;rintro e3 V5 ⟨A5,n5,c5,B5,m5,d5,rfl,hs5,hs6,hq,hc⟩
     have HQ5:=Zh (hq (fun A n c l=>On w.heap.size G w (fun W=>SL W A n c l)) HQ.out);replace hB:=zAA hB hc;replace HKp:=Zh (HK.out _ hB)
     try replace HG:=Zh (HG.out.next hc)
     clear hc hs5 hs6 hq;go_wp2_with fail
     refine hK.out _ _ (HKp.out) (fun hH=>?_);clear hK K;refine tkh 9 hH ?_;refine tkh 10 hH ?_;refine tkh 11 hH ?_;simp only [Act.put,sT,sZ,sS];refine rdh 13 (fun K hK=>?_);obtain ⟨r0,r1,r2,r3,r4,r5,r6⟩:=HG.out.cells7;have f0:=HG.out.frozen 0;have f1:=HG.out.frozen 1;have f2:=HG.out.frozen 2;have f3:=HG.out.frozen 3;have f4:=HG.out.frozen 4;have f5:=HG.out.frozen 5;have f6:=HG.out.frozen 6
     go_simp
     clear r0 r1 r2 r3 r4 r5 r6 f0 f1 f2 f3 f4 f5 f6;have HG2:=Zh (HG.out.set7 (.bool (o.getD ⟨zAZ,zAZ,false⟩).lo.neg) (.slice A5 n5 c5) (.int .i64 (o.getD ⟨zAZ,zAZ,false⟩).lo.e) (.bool (o.getD ⟨zAZ,zAZ,false⟩).hi.neg) (.slice B5 m5 d5) (.int .i64 (o.getD ⟨zAZ,zAZ,false⟩).hi.e) (.bool (o.getD ⟨zAZ,zAZ,false⟩).all));have hgz:wr.heap.size<=Wd.heap.size:=by omega
     have hbe:=zC0 hB hgz (.bool (o.getD ⟨zAZ,zAZ,false⟩).lo.neg) (.slice A5 n5 c5) (.int .i64 (o.getD ⟨zAZ,zAZ,false⟩).lo.e) (.bool (o.getD ⟨zAZ,zAZ,false⟩).hi.neg) (.slice B5 m5 d5) (.int .i64 (o.getD ⟨zAZ,zAZ,false⟩).hi.e) (.bool (o.getD ⟨zAZ,zAZ,false⟩).all);generalize (((((((V5.setCell ⟨Wd.heap.size,0,none⟩ (.bool (o.getD ⟨zAZ,zAZ,false⟩).lo.neg)).setCell ⟨Wd.heap.size,1,none⟩ (.slice A5 n5 c5)).setCell ⟨Wd.heap.size,2,none⟩ (.int .i64 (o.getD ⟨zAZ,zAZ,false⟩).lo.e)).setCell ⟨Wd.heap.size,3,none⟩ (.bool (o.getD ⟨zAZ,zAZ,false⟩).hi.neg)).setCell ⟨Wd.heap.size,4,none⟩ (.slice B5 m5 d5)).setCell ⟨Wd.heap.size,5,none⟩ (.int .i64 (o.getD ⟨zAZ,zAZ,false⟩).hi.e)).setCell ⟨Wd.heap.size,6,none⟩ (.bool (o.getD ⟨zAZ,zAZ,false⟩).all))=WE at *;replace HKp:=Zh (HK.out _ hbe);refine hK.out _ _ (HKp.out) (fun hH=>?_);clear hK K;refine tkh 14 hH ?_;simp only [Act.put,sT,sZ,sS];refine wpAnyH_done (by kernel_rfl) ?_ _;go_wp2_with fail
     go_meet
     exact ⟨_,A5,B5,n5,c5,m5,d5,rfl,rfl,HG2.out,HQ5.out,hgz,hbe⟩
    case rest=>
     obtain ⟨g,A5,B5,n5,c5,m5,d5,rfl,rfl,hg,hon,hgz,hb3⟩:=hcut;have HG:=Zh hg;have HON:=Zh hon;have HB3:=Zh hb3;clear hg hon hb3 HK HKp HMT HQ;cases o
     ·have HN:Hid (PP=none):=by
       have h1:=zpS (show mtK xs ys (k+1)=none from HE1.out) (n - (k+1));unfold Hid;rw [HV2.out,<- h1]
       congr 1
       omega
      go_wp2_with fail
      rw [HN.out]
      go_ret2
      exact ⟨none,0,0,rfl,fun W _ _=>Sl.nil W,zAA HB.out HB3.out⟩
     ·rename_i y
      have HE2:Hid (mtK xs ys (k+1)=some (l++[y])):=HE1.out;have HG2:Hid (Blk wc g 43 #[.bool y.lo.neg,.slice A5 n5 c5,.int .i64 y.lo.e,.bool y.hi.neg,.slice B5 m5 d5,.int .i64 y.hi.e,.bool y.all]):=HG.out;obtain ⟨x0,x1,x2,x3,x4,x5,x6⟩:=HG2.out.cells7;have HRI:Hid (On w.heap.size G w (fun W=>RI W [.bool y.lo.neg,.slice A5 n5 c5,.int .i64 y.lo.e,.bool y.hi.neg,.slice B5 m5 d5,.int .i64 y.hi.e,.bool y.all] y)):=fun W h1 h2=>⟨A5,n5,c5,B5,m5,d5,rfl,HON.out.1 W h1 h2,HON.out.2 W h1 h2⟩
      have hb5:=zAE wc (.cells #[.bool y.lo.neg,.slice A5 n5 c5,.int .i64 y.lo.e,.bool y.hi.neg,.slice B5 m5 d5,.int .i64 y.hi.e,.bool y.all] 43);have hbB:=zAA HB3.out hb5;have hzA:=HB.out.size;have hzB:=HB3.out.size;have HA2:=Zh (HA.out.below hbB);have HBB:=Zh hbB;clear hb5 hbB HG HG2 HON HE1
      go_wp2_with (at_builtin;go_loud (refine zEn rfl _ _ 24 rfl 43 7 88 _ zQG rfl (by omega) (by omega) Tryz.underlying24 w.heap.size _ fs l rfl HA2.out ⟨wc.heap.size,0,none⟩ 1 [.bool y.lo.neg,.slice A5 n5 c5,.int .i64 y.lo.e,.bool y.hi.neg,.slice B5 m5 d5,.int .i64 y.hi.e,.bool y.all] y rfl rfl ?c1 ?c2 ?c3 ?c4 HGL.out ?c5 ?_))
      case c2=>exact ⟨rfl,rfl,rfl,rfl,rfl,rfl,rfl⟩
      case c3=>omega
      case c4=>omega
      case c5=>exact (HRI.out.move (fun b hb=>(zAA HB.out HBB.out).block b (HGL.out b hb))).sub (by omega) (fun b hb=>⟨by have:=HGL.out b hb;omega,.inl hb,fun e=>by have:=(HA2.out.own.lt b e).1;have:=HGL.out b hb;omega⟩)
      intro v' w5 hacc hb6 _;have HA3:=Zh hacc;have HB5:=Zh ((zAA HB.out HBB.out).trans hb6);clear hacc hb6 x0 x1 x2 x3 x4 x5 x6;go_wp2_with fail
      go_roundw
      case rel=>exact ⟨k+1,_,l++[y],by omega,by go_num,HE2.out,HB5.out,HA3.out⟩
      case measure=>simp [intOf];omega
   ·obtain rfl:n=k:=by omega
    have HN:Hid (PP=some l):=by unfold Hid;rw [HV2.out,HE.out]
    have hll:=zo5 n l HE.out;obtain ⟨A3,c3,rfl,-,hsl⟩:=HA.out.on;rw [hll] at hsl HA ⊢;have HSL:=Zh hsl;clear hsl HA;go_wp2_with fail
    rw [HN.out]
    go_ret2
    exact ⟨A3,n,c3,rfl,HSL.out,HB.out⟩
structure zMU {α:Type}(e:TypeId) (k:Nat) (R:World->List Value->α->Prop) (E:Nat) (F:Nat->Prop) (w:World) (g:Nat) (cs:Array Value) (xs:List α):Prop where
 blk:Blk w g e cs
 size:xs.length*k<=cs.size
 each:∀ (j:Nat) (x:α),xs[j]? = some x->∃us:List Value,us.length=k/\(∀ (i:Nat) (v:Value),us[i]? = some v->cs[j*k+i]? = some v)/\On E F w (fun W=>R W us x)
section
variable {α:Type}{e:TypeId}{k:Nat}{R:World->List Value->α->Prop}{E E':Nat}{F F':Nat->Prop}{w w':World}{g:Nat}{cs:Array Value}{xs:List α}
theorem zMU.move (h:zMU e k R E F w g cs xs) (hg:w'.heap[g]? = w.heap[g]?) (hb:∀b,F b->w'.heap[b]? = w.heap[b]?):zMU e k R E F w' g cs xs:=
 ⟨hg.trans h.blk,h.size,fun j x hj=>by
  obtain ⟨us,h1,h2,h3⟩:=h.each j x hj;exact ⟨us,h1,h2,h3.move hb⟩⟩
theorem zMU.sl (h:zMU e k R E F w g cs xs) {n c:Nat}(hl:xs.length=n) (hc:n<=c) (hm:c<=9223372036854775807) (hE:E<=w.heap.size):Sl k R w (some ⟨g,0,none⟩) n c xs:=by
 refine ⟨hl,hc,hm,fun _=>⟨g,0,rfl,h.blk.lt,fun j x hj=>?_⟩⟩;obtain ⟨us,h1,h2,h3⟩:=h.each j x hj;refine ⟨us,h1,h3.here hE,fun i v hi=>?_⟩;rw [Nat.zero_add,h.blk.cell];exact h2 i v hi
end
def zBm (w:World) (b off:Nat):Nat->List Value
 | 0=>[]
 | m+1=>zBm w b off m++[(w.cell? ⟨b,off+m,none⟩).getD undef]
theorem zA8 (w:World) (b off:Nat):∀m,(zBm w b off m).length=m
 | 0=>rfl
 | m+1=>by rw [zBm,Yu,zA8 w b off m];rfl
theorem zDG (w:World) (b off:Nat):∀ (m i:Nat),i<m->(zBm w b off m)[i]? = some ((w.cell? ⟨b,off+i,none⟩).getD undef):=by
 intro m
 induction m with
 | zero=>intro i h;omega
 | succ m ih=>
  intro i h;rw [zBm];by_cases hi:i<m
  ·rw [Yw (by rw [zA8];exact hi)]
   exact ih i hi
  ·have:i=m:=by omega
   subst this;rw [Yx (by rw [zA8];exact Ya _),zA8,Nat.sub_self];rfl
theorem zOt {α:Type}{e:TypeId}{k:Nat}{R:World->List Value->α->Prop}{G:Nat->Prop}{w w':World}{b off n c base:Nat}{xs:List α}{v':Value}
  (h:On w.heap.size G w (fun W=>Sl k R W (some ⟨b,off,none⟩) n c xs)) (hk:0<k) (h0:∀W vs x,R W vs x->vs[0]? ≠ some (.int .u32 7)) (hn:0<n)
  (ho:w'.ownsRow base e k v' n (zBm w b off (n*k))) (hs:w.heap.size<=w'.heap.size) (hG:∀b,G b->w'.heap[b]? = w.heap[b]?) :
  ∃g cap cs,v' = .slice (some ⟨g,0,none⟩) n cap/\base<=g/\n<=cap/\cap<=9223372036854775807/\zMU e k R w.heap.size G w' g cs xs:=by
 rcases ho.2 with ⟨_,hz⟩ | ⟨g,cap,cur,e1,hbg,hg,h1,h2,h3,h4⟩
 ·omega
 ·refine ⟨g,cap,cur,e1,hbg,h1,by simpa [maxLen] using h2,hg,?_,fun j x hj=>?_⟩
  ·have hl:=(h.here (Ya _)).len
   rw [hl,h3];exact Nat.mul_le_mul_right _ h1
  ·have hjn:j<n:=by have:=(Yb.1 hj).1;have:=(h.here (Ya _)).len;omega
   obtain ⟨b',off',x',vs,eA,_,_,hx',hl,hc,hR⟩:=zOe h hk h0 hjn;injection eA with eA
   injection eA with e2 e3 _
   subst e2 e3;rw [hj] at hx';injection hx' with hx'
   subst hx';refine ⟨vs,hl,fun i v hi=>?_,hR.move hG⟩;have hik:i<k:=by have:=(Yb.1 hi).1;omega
   have hlt:j*k+i<n*k:=by
    have:(j+1)*k<=n*k:=Nat.mul_le_mul_right _ hjn;rw [Nat.succ_mul] at this;omega
   have h5:=zDG w b off (n*k) (j*k+i) hlt;have h6:=hc i v hi;rw [Nat.add_assoc] at h6;rw [h6,<- h4,Xg hlt] at h5
   simpa using h5
theorem zJP (b off j:Nat):(⟨b,off,none⟩:Addr).add j=⟨b,off+j,none⟩:=by
 unfold Addr.add
 split
 ·subst_vars;rfl
 ·rfl
theorem zEt {α:Type}{k:Nat}{R:World->List Value->α->Prop}{w:World}{b off n c:Nat}{xs:List α}(h:Sl k R w (some ⟨b,off,none⟩) n c xs) (hk:0<k) (h1:∀W vs x,R W vs x->∀u∈vs,u.oneCell' = true) :
  (∀u∈zBm w b off (n*k),u.oneCell' = true)/\∀ (j:Nat) (u:Value),(zBm w b off (n*k))[j]? = some u->w.cell? ((⟨b,off,none⟩:Addr).add j)=some u:=by
 have key:∀j,j<n*k->∃u,w.cell? ⟨b,off+j,none⟩=some u/\u.oneCell' = true:=by
  intro j hj;have hq:j / k<n:=(Nat.div_lt_iff_lt_mul hk).2 hj;obtain ⟨b',off',x,vs,eA,_,_,hl,hR,hc⟩:=h.get hq;injection eA with eA
  injection eA with e2 e3 _
  subst e2 e3;have hm:j%k<vs.length:=by rw [hl];exact Nat.mod_lt _ hk
  refine ⟨vs[j%k],?_,h1 _ _ _ hR _ (List.getElem_mem hm)⟩;have:=hc (j%k) _ (Yo hm);rw [Nat.add_assoc,show j / k*k+j%k=j by rw [Nat.mul_comm];exact Nat.div_add_mod j k] at this;exact this
 constructor
 ·intro u hu
  obtain ⟨j,hj⟩:=List.mem_iff_getElem?.1 hu;have hl:=(Yb.1 hj).1;rw [zA8] at hl;obtain ⟨u',e1,e2⟩:=key j hl;rw [zDG w b off _ j hl,e1] at hj;injection hj with hj
  rw [<- hj];exact e2
 ·intro j u hj
  have hl:=(Yb.1 hj).1;rw [zA8] at hl;obtain ⟨u',e1,e2⟩:=key j hl;rw [zDG w b off _ j hl,e1] at hj;injection hj with hj
  rw [zJP,e1,<- hj];rfl
theorem zVS:∀W vs (x:Iv),RI W vs x->∀u∈vs,u.oneCell' = true:=by
 rintro W vs x ⟨A,n,c,B,m,d,rfl,_,_⟩ u hu
 simp at hu;rcases hu with rfl | rfl | rfl | rfl | rfl | rfl | rfl <;> rfl
theorem zMU.on {α:Type}{e:TypeId}{k:Nat}{R:World->List Value->α->Prop}{E:Nat}{F:Nat->Prop}{w:World}{g:Nat}{cs:Array Value}{xs:List α}(h:zMU e k R E F w g cs xs) {n c:Nat}(hl:xs.length=n) (hc:n<=c) (hm:c<=9223372036854775807) (hE:E<=w.heap.size):On w.heap.size (fun b=>F b\/b=g) w (fun W=>Sl k R W (some ⟨g,0,none⟩) n c xs):=
 fun W h1 h2=>(h.move (h2 g (.inr rfl)) (fun b hb=>h2 b (.inl hb))).sl hl hc hm (Yq hE h1)
theorem zoa (A:Option Addr) (n c:Nat) (xs:List Iv) (w:World) (G:Nat->Prop) (hG:∀b,G b->b<w.heap.size) (ho:On w.heap.size G w (fun W=>Sl 7 RI W A n c xs)) (hn1:1<=n) (hn:n<=100000) :
  Calls Tryz.prog 65 #[.slice A n c] w fun e w'=>∃A' c',e=.returned (.slice A' n c')/\On w'.heap.size (fun b=>b<w'.heap.size/\(G b\/w.heap.size<=b)) w' (fun W=>Sl 7 RI W A' n c' xs)/\Below w.heap.size w w':=by
 have h:=ho.here (Ya _);obtain ⟨b,off,x0,us0,rfl,hbl,-,-,-,-⟩:=h.get hn1;have HON:=Zh ho;have HGL:=Zh hG;have hk:=zEt h (by omega) zVS;have h2:∀ (j:Nat) (u:Value),(zBm w b off (n*7))[j]? = some u->(w.alloc (.cells #[] 43)).cell? ((⟨b,off,none⟩:Addr).add j)=some u:=fun j u hj=>((zAE w (.cells #[] 43)).cell (p:=(⟨b,off,none⟩:Addr).add j) (by rw [zJP];exact hbl)).trans (hk.2 j u hj)
 have hl:(zBm w b off (n*7)).length=n*7:=zA8 _ _ _ _;have h1:=hk.1;have HCF:Hid (zBm w b off (n*7)=zBm w b off (n*7)):=rfl;obtain ⟨cs,hcs⟩:∃cs,cs=zBm w b off (n*7):=⟨_,rfl⟩;rw [<- hcs] at h2 hl h1;have HCS:=Zh hcs;have hnil:=Lib.run_eql_slice_nil (P:=Tryz.prog) w 24 43 (some ⟨b,off,none⟩) n c 0 0 Tryz.underlying24;obtain ⟨iB,hiB,hzB,hsB,hyB⟩:=info_parts zQG;have hb6:=zAE w (.cells #[] 43);have hz6:(w.alloc (.cells #[] 43)).heap.size=w.heap.size+1:=by simp
 have hz6a:=Ys hz6.symm;have HOW:Hid ((w.alloc (.cells #[] 43)).ownsRow w.heap.size 43 7 (.slice (some ⟨w.heap.size,0,none⟩) 0 0) 0 []):=⟨rfl,.inr ⟨w.heap.size,0,#[],rfl,Ya _,Blk.new _ _ _,Ya _,by simp [maxLen],rfl,rfl⟩⟩;clear hz6 h ho hG hcs HCF hk;go_enter Tryz.func65,Tryz.ntmps65
 go_wp2_with (at_builtin;go_loud (refine wpList_append_own_at _ rfl _ _ 24 rfl w.heap.size 43 iB _ 7 88 Tryz.underlying24 hiB hzB hsB hyB rfl (by omega) (.slice (some ⟨w.heap.size,0,none⟩) 0 0) 0 [] rfl HOW.out ⟨b,off,none⟩ n c cs rfl hl ?c1 h1 ?c2 ?c3 ?c4 ?_))
 case c1=>exact h2
 case c2=>simp only [maxLen];omega
 case c3=>omega
 case c4=>omega
 intro v1 w6 ho6 hg6 _ _;have hbb:=hb6.trans ((Yp w.heap.size _).grown hg6 (by omega) (fun k hk=>by injection hk with hk;exact Ys hk));obtain ⟨g,cap,ds,rfl,hg,hc1,hm1,hrow⟩:=zOt HON.out (by omega) zVR (by omega) (by rw [<- HCS.out];simpa using ho6) hbb.size (fun b hb=>hbb.block b (HGL.out b hb));have HR:=Zh ((hrow.on (HON.out.here (Ya _)).len hc1 hm1 hbb.size).sub (F':=fun b=>b<w6.heap.size/\(G b\/w.heap.size<=b)) (Ya _) (fun b hb=>by
  rcases hb with hb | rfl
  ·exact ⟨Yh (HGL.out b hb) hbb.size,.inl hb⟩
  ·exact ⟨hrow.blk.lt,.inr hg⟩))
 have HBB:=Zh hbb;clear hrow ho6 hg6 hbb;go_wp2_with fail
 go_ret;exact ⟨_,cap,rfl,HR.out,HBB.out⟩
end Go.Proofs.YtchkfjgcbbbffaaGreatDoor
end
