/- Bundle 12: what the law's walk stands on: S7, S2, S9, S10, S11. -/
import Derived.Test.YtchkfjgcbbbffaaGreatDoorX1
import Derived.Test.YtchkfjgcbbbffaaGreatDoorX2
import Derived.Test.YtchkfjgcbbbffaaGreatDoorX3
import Derived.Test.YtchkfjgcbbbffaaGreatDoorX4
import Derived.Test.YtchkfjgcbbbffaaGreatDoorX10
import Derived.Test.YtchkfjgcbbbffaaGreatDoorX11
set_option maxRecDepth 100000
set_option maxHeartbeats 20000000
set_option linter.all false
noncomputable section
namespace Go.Proofs.YtchkfjgcbbbffaaGreatDoor
open Go.RowKit Pl Go.Shelf
theorem Blk.set6 {w:World}{g:Nat}{t:TypeId}{b0 b1 b2 b3 b4 b5:Value}(h:Blk w g t #[b0,b1,b2,b3,b4,b5]) (a0 a1 a2 a3 a4 a5:Value):Blk ((((((w.setCell ⟨g,0,none⟩ (a0)).setCell ⟨g,1,none⟩ (a1)).setCell ⟨g,2,none⟩ (a2)).setCell ⟨g,3,none⟩ (a3)).setCell ⟨g,4,none⟩ (a4)).setCell ⟨g,5,none⟩ (a5)) g t #[a0,a1,a2,a3,a4,a5]:=
 (((((h.set_ 0 a0).set_ 1 a1).set_ 2 a2).set_ 3 a3).set_ 4 a4).set_ 5 a5
theorem zBy {w:World}{g b:Nat}(hb:b≠g) (a0 a1 a2 a3 a4 a5:Value):((((((w.setCell ⟨g,0,none⟩ (a0)).setCell ⟨g,1,none⟩ (a1)).setCell ⟨g,2,none⟩ (a2)).setCell ⟨g,3,none⟩ (a3)).setCell ⟨g,4,none⟩ (a4)).setCell ⟨g,5,none⟩ (a5)).heap[b]? = w.heap[b]?:=
 (Yl _ _ _ _ hb).trans ((Yl _ _ _ _ hb).trans ((Yl _ _ _ _ hb).trans ((Yl _ _ _ _ hb).trans ((Yl _ _ _ _ hb).trans (Yl _ _ _ _ hb)))))
theorem zBz {w:World}{g:Nat}(a0 a1 a2 a3 a4 a5:Value):((((((w.setCell ⟨g,0,none⟩ (a0)).setCell ⟨g,1,none⟩ (a1)).setCell ⟨g,2,none⟩ (a2)).setCell ⟨g,3,none⟩ (a3)).setCell ⟨g,4,none⟩ (a4)).setCell ⟨g,5,none⟩ (a5)).heap.size=w.heap.size:=by simp [World.setCell]
theorem zAS {B:Nat}{w w':World}{g:Nat}(h:Below B w w') (hg:B<=g) (a0 a1 a2 a3 a4 a5:Value):Below B w ((((((w'.setCell ⟨g,0,none⟩ (a0)).setCell ⟨g,1,none⟩ (a1)).setCell ⟨g,2,none⟩ (a2)).setCell ⟨g,3,none⟩ (a3)).setCell ⟨g,4,none⟩ (a4)).setCell ⟨g,5,none⟩ (a5)):=
 (((((h.setCell (p:=⟨g,0,none⟩) hg a0).setCell (p:=⟨g,1,none⟩) hg a1).setCell (p:=⟨g,2,none⟩) hg a2).setCell (p:=⟨g,3,none⟩) hg a3).setCell (p:=⟨g,4,none⟩) hg a4).setCell (p:=⟨g,5,none⟩) hg a5
theorem zR3 {α:Type}{e:TypeId}{k:Nat}{R:World->List Value->α->Prop}{iB iE:α->Nat}{base:Nat}{w:World}{v:Value}{fs:List (List Value)}{xs:List α}(h:zIN e k R iB iE base w v fs xs):∀x∈xs,iE x<=w.heap.size:=by
 intro x hx;obtain ⟨j,hj⟩:=List.mem_iff_getElem?.1 hx;have hjl:j<fs.length:=by have:=(Yb.1 hj).1;have:=h.len;omega
 exact (h.each j _ x (Yo hjl) hj).2.1
structure zhB (x:Ct) (W0 wx:World) (g:Nat) (A:Option Addr) (c:Nat) (B:Option Addr) (d:Nat) (C:Option Addr) (q:Nat):Prop where
 blk:Blk wx g 29 #[.int .i64 x.prec,.int .i64 x.order,.slice A x.start.c.length c,.slice B x.start.a.length d,.slice C x.start.r.length q,.slice none 0 0]
 g0:W0.heap.size<=g
 on:On wx.heap.size (fun b=>W0.heap.size<=b/\b<wx.heap.size/\b≠g) wx (fun W=>Sl 3 RD W A x.start.c.length c x.start.c/\Sl 1 RM W B x.start.a.length d x.start.a/\Sl 7 RI W C x.start.r.length q x.start.r)
 b:Below W0.heap.size W0 wx
def VCt (x:Ct) (w:World) (e:Ending) (w':World):Prop:=∃us M Ts Rs,e=.returned (.agg us.toArray)/\us.length=6/\CtM w' M Ts Rs us x/\(∀b∈M,b<w'.heap.size)/\(∀b,b<w.heap.size->b∈M/\b ∉ Ts++Rs)/\Below w.heap.size w w'
structure SzL (x:Lk):Prop where
 t:x.tube.length<=1000
 p:0<x.tube.length
 e:SzF x.e
 v:x.v.length<=1000
 l:∀l∈x.v,l.length<=1000
theorem szL {x:Lk}{N:Nat}(h:lkV N x=true) (hN:N<=1000):SzL x:=by
 unfold lkV at h;simp only [Yi,Xa] at h;obtain ⟨⟨⟨⟨⟨⟨v1,v2⟩,v3⟩,v4⟩,v5⟩,v6⟩,v7⟩:=h;unfold zEO at v3;unfold sqV at v7;simp only [Yi,Xa] at v3 v7;refine ⟨by omega,by omega,szF v5,by omega,fun l hl=>?_⟩;have:=zDf v7.2 l hl;rw [Xc] at this;have:=of_decide_eq_false this.1;omega
theorem zHS (vs:List Value) (x:Ct) (w:World) (h:RC w vs x) (hx:BdC x) (hv:ctV x=true):Calls Tryz.prog 43 #[.agg vs.toArray] w (VCt x w):=by
 obtain ⟨xA,xn,xc,xB,xm,xd,xC,xp,xq,xL,xln,xlc,rfl,hx1,hx2,hx3,hx4⟩:=h;have hcp:=zBM hv;have hW1:=zAE w (.cells #[.int .i64 x.prec,.int .i64 x.order,.slice xA xn xc,.slice xB xm xd,.slice xC xp xq,.slice xL xln xlc] 29);have hW2:=zAE (w.alloc (.cells #[.int .i64 x.prec,.int .i64 x.order,.slice xA xn xc,.slice xB xm xd,.slice xC xp xq,.slice xL xln xlc] 29)) (.cells #[.int .i64 0,.int .i64 0,.slice none 0 0,.slice none 0 0,.slice none 0 0,.slice none 0 0] 29);have hb0:=zAA hW1 hW2;have kx:=(Blk.new w 29 #[.int .i64 x.prec,.int .i64 x.order,.slice xA xn xc,.slice xB xm xd,.slice xC xp xq,.slice xL xln xlc]).next hW2;have kr:Blk ((w.alloc (.cells #[.int .i64 x.prec,.int .i64 x.order,.slice xA xn xc,.slice xB xm xd,.slice xC xp xq,.slice xL xln xlc] 29)).alloc (.cells #[.int .i64 0,.int .i64 0,.slice none 0 0,.slice none 0 0,.slice none 0 0,.slice none 0 0] 29)) (w.heap.size+1) 29 #[.int .i64 0,.int .i64 0,.slice none 0 0,.slice none 0 0,.slice none 0 0,.slice none 0 0]:=Blk.newAt _ _ _ (by simp);have hsz:((w.alloc (.cells #[.int .i64 x.prec,.int .i64 x.order,.slice xA xn xc,.slice xB xm xd,.slice xC xp xq,.slice xL xln xlc] 29)).alloc (.cells #[.int .i64 0,.int .i64 0,.slice none 0 0,.slice none 0 0,.slice none 0 0,.slice none 0 0] 29)).heap.size=w.heap.size+2:=by simp
 have hsz1:=Ys hsz;have hsz2:=Ys hsz.symm;have HRF:=Zh (show RF w [.slice xA xn xc,.slice xB xm xd,.slice xC xp xq] x.start from ⟨xA,xn,xc,xB,xm,xd,xC,xp,xq,rfl,hx1,hx2,hx3⟩);have HZF:=Zh (szF hcp.1);have HBS:=Zh hx.s;have HBL:=Zh hx.l;have HZL:=Zh (fun l (hl:l∈x.links)=>szL (hcp.2.2.1 l hl) (by have:=hcp.2.2.2.2.2.2.2.2.1;omega));have HX4:=Zh hx4;have m1:=hx4.cap;have m2:=hx4.max;have HL4:=Zh hx4.len;have hxl:xln<=1000:=by have:=hcp.2.2.2.2.2.2.2.2.2;have:=hx4.len;omega
 clear hx hx1 hx2 hx3 hx4 hW1 hW2 hsz hcp hv;obtain ⟨p0,p1,p2,p3,p4,p5⟩:=kx.cells6;go_enter Tryz.func43,Tryz.ntmps43
 go_upto_region 1 with fail
 generalize ((w.alloc (.cells #[.int .i64 x.prec,.int .i64 x.order,.slice xA xn xc,.slice xB xm xd,.slice xC xp xq,.slice xL xln xlc] 29)).alloc (.cells #[.int .i64 0,.int .i64 0,.slice none 0 0,.slice none 0 0,.slice none 0 0,.slice none 0 0] 29))=W0 at *;have HB0:=Zh hb0;have HKR:=Zh kr;have HC1:=Zh (fun W (hW:Below W0.heap.size W0 W)=>zET _ x.start W (zBs _ _ _ _ HRF.out (zAA HB0.out hW)) HBS.out HZF.out);clear hb0 kr
 go_cut [3] (fun s3 wx=>∃g A c B d C q,s3=.pointer (some ⟨g,0,none⟩)/\zhB x W0 wx g A c B d C q)
 case first=>
  have HK:Hid (∀V,Below W0.heap.size W0 V->(fun W=>Blk W w.heap.size 29 #[.int .i64 x.prec,.int .i64 x.order,.slice xA xn xc,.slice xB xm xd,.slice xC xp xq,.slice xL xln xlc]) V):=fun V hV=>kx.next hV
  have HKp:=Zh (HK.out _ (zBw W0));have hB:=zBw W0;have hsd1:W0.drew.heap.size<=W0.heap.size:=Ya _;have hsd2:W0.heap.size<=W0.drew.heap.size:=Ya _;clear p0 p1 p2 p3 p4 p5 kx;refine wp_region_held_drew (S:=(fun W=>Blk W w.heap.size 29 #[.int .i64 x.prec,.int .i64 x.order,.slice xA xn xc,.slice xB xm xd,.slice xC xp xq,.slice xL xln xlc])) (by kernel_rfl) (HK.out _ hB) (fun hH=>?_);generalize W0.drew=Wd at *;refine tk (i:=0) (oi:=⟨_,_,_,_,_,_⟩) (v:=?_) rfl (by rfl) ?_ hH ?_;rotate_left
  ·(intro w hSw;obtain ⟨p0,p1,p2,p3,p4,p5⟩:=Blk.cells6 hSw;go_simp;try (with_reducible rfl))
  simp only [Act.put,sT,sZ,sS];refine tk (i:=1) (oi:=⟨_,_,_,_,_,_⟩) (v:=?_) rfl (by rfl) ?_ hH ?_;rotate_left
  ·(intro w hSw;obtain ⟨p0,p1,p2,p3,p4,p5⟩:=Blk.cells6 hSw;go_simp;try (with_reducible rfl))
  simp only [Act.put,sT,sZ,sS];refine tk (i:=2) (oi:=⟨_,_,_,_,_,_⟩) (v:=?_) rfl (by rfl) ?_ hH ?_;rotate_left
  ·(intro w hSw;obtain ⟨p0,p1,p2,p3,p4,p5⟩:=Blk.cells6 hSw;go_simp;try (with_reducible rfl))
  simp only [Act.put,sT,sZ,sS];refine tk (i:=3) (oi:=⟨_,_,_,_,_,_⟩) (v:=?_) rfl (by rfl) ?_ hH ?_;rotate_left
  ·(intro w hSw;obtain ⟨p0,p1,p2,p3,p4,p5⟩:=Blk.cells6 hSw;go_simp;try (with_reducible rfl))
  simp only [Act.put,sT,sZ,sS];refine tk (i:=4) (oi:=⟨_,_,_,_,_,_⟩) (v:=?_) rfl (by rfl) ?_ hH ?_;rotate_left
  ·(intro w hSw;obtain ⟨p0,p1,p2,p3,p4,p5⟩:=Blk.cells6 hSw;go_simp;try (with_reducible rfl))
  simp only [Act.put,sT,sZ,sS];refine tk (i:=5) (oi:=⟨_,_,_,_,_,_⟩) (v:=?_) rfl (by rfl) ?_ hH ?_;rotate_left
  ·(intro w hSw;obtain ⟨p0,p1,p2,p3,p4,p5⟩:=Blk.cells6 hSw;go_simp;try (with_reducible rfl))
  simp only [Act.put,sT,sZ,sS];refine Yj (rs:=[6,8]) (by kernel_rfl) (by simp) ?_;refine Yc (o:=⟨_,_,_,_,_,_⟩) rfl (fun K hK=>?_) ?_
  ·go_simp
   refine (HC1.out _ hB).mono ?_;rintro e V1 ⟨FA,fc,FB,fd,R1,fq,rfl,hr0,hr1,hfq1,hfq2,hgot,hrow,hc⟩
   have HN:=Zh hgot;have HI:=Zh hrow;have hs1:=hc.size
   try replace HG:=Zh (HG.out.next hc)
   replace hB:=zAA hB hc;replace HKp:=Zh (HK.out _ hB);obtain ⟨lo1,hlo1⟩:∃n,n=Wd.heap.size:=⟨_,rfl⟩;obtain ⟨hi1,hhi1⟩:∃n,n=V1.heap.size:=⟨_,rfl⟩;rw [<- hlo1,<- hhi1] at HN HI;clear hc hgot hrow;go_wp2_with fail
   refine hK.out _ _ (HKp.out) (fun hH=>?_);clear hK K;refine tk (i:=7) (oi:=⟨_,_,_,_,_,_⟩) (v:=?_) rfl (by rfl) ?_ hH ?_;rotate_left
   ·(intro w hSw;obtain ⟨p0,p1,p2,p3,p4,p5⟩:=Blk.cells6 hSw;go_simp;try (with_reducible rfl))
   simp only [Act.put,sT,sZ,sS];refine Yj (rs:=[8]) (by kernel_rfl) (by simp) ?_;refine Yc (o:=⟨_,_,_,_,_,_⟩) rfl (fun K hK=>?_) Yd
   go_simp
   have hgs1:(V1.alloc (.cells #[.int .i64 0,.int .i64 0,.slice none 0 0,.slice none 0 0,.slice none 0 0,.slice none 0 0] 29)).heap.size<=V1.heap.size+1:=by simp
   have hgs2:V1.heap.size+1<=(V1.alloc (.cells #[.int .i64 0,.int .i64 0,.slice none 0 0,.slice none 0 0,.slice none 0 0,.slice none 0 0] 29)).heap.size:=by simp
   have HG:Hid (Blk (V1.alloc (.cells #[.int .i64 0,.int .i64 0,.slice none 0 0,.slice none 0 0,.slice none 0 0,.slice none 0 0] 29)) V1.heap.size 29 #[.int .i64 0,.int .i64 0,.slice none 0 0,.slice none 0 0,.slice none 0 0,.slice none 0 0]):=Blk.new _ _ _;have hc:=zAE V1 (.cells #[.int .i64 0,.int .i64 0,.slice none 0 0,.slice none 0 0,.slice none 0 0,.slice none 0 0] 29)
   try replace HN:=Zh (HN.out.next hc)
   try replace HI:=Zh (HI.out.next hc)
   replace hB:=zAA hB hc;replace HKp:=Zh (HK.out _ hB);clear hc;generalize (V1.alloc (.cells #[.int .i64 0,.int .i64 0,.slice none 0 0,.slice none 0 0,.slice none 0 0,.slice none 0 0] 29))=Y1 at *;refine hK.out _ _ (HKp.out) (fun hH=>?_);clear hK K;refine Yj (rs:=[9]) (by kernel_rfl) (by simp) ?_;refine Yc (o:=⟨_,_,_,_,_,_⟩) rfl (fun K hK=>?_) Yd;obtain ⟨r0,r1,r2,r3,r4,r5⟩:=HG.out.cells6;have f0:=HG.out.frozen 0;have f1:=HG.out.frozen 1;have f2:=HG.out.frozen 2;have f3:=HG.out.frozen 3;have f4:=HG.out.frozen 4;have f5:=HG.out.frozen 5
   go_simp
   clear r0 r1 r2 r3 r4 r5 f0 f1 f2 f3 f4 f5;have hgg:W0.heap.size<=V1.heap.size:=by omega
   have HG2:=Zh (HG.out.set6 (.int .i64 x.prec) (.int .i64 x.order) (.slice FA x.start.c.length fc) (.slice FB x.start.a.length fd) (.slice (some ⟨R1,0,none⟩) x.start.r.length fq) (.slice none 0 0));have hbe:=zAS hB hgg (.int .i64 x.prec) (.int .i64 x.order) (.slice FA x.start.c.length fc) (.slice FB x.start.a.length fd) (.slice (some ⟨R1,0,none⟩) x.start.r.length fq) (.slice none 0 0);have hne:V1.heap.size<lo1\/hi1<=V1.heap.size:=by omega
   have hmv:∀b,b≠V1.heap.size->((((((Y1.setCell ⟨V1.heap.size,0,none⟩ (.int .i64 x.prec)).setCell ⟨V1.heap.size,1,none⟩ (.int .i64 x.order)).setCell ⟨V1.heap.size,2,none⟩ (.slice FA x.start.c.length fc)).setCell ⟨V1.heap.size,3,none⟩ (.slice FB x.start.a.length fd)).setCell ⟨V1.heap.size,4,none⟩ (.slice (some ⟨R1,0,none⟩) x.start.r.length fq)).setCell ⟨V1.heap.size,5,none⟩ (.slice none 0 0)).heap[b]? = Y1.heap[b]?:=fun b hb=>zBy hb _ _ _ _ _ _
   have hse:((((((Y1.setCell ⟨V1.heap.size,0,none⟩ (.int .i64 x.prec)).setCell ⟨V1.heap.size,1,none⟩ (.int .i64 x.order)).setCell ⟨V1.heap.size,2,none⟩ (.slice FA x.start.c.length fc)).setCell ⟨V1.heap.size,3,none⟩ (.slice FB x.start.a.length fd)).setCell ⟨V1.heap.size,4,none⟩ (.slice (some ⟨R1,0,none⟩) x.start.r.length fq)).setCell ⟨V1.heap.size,5,none⟩ (.slice none 0 0)).heap.size=Y1.heap.size:=zBz _ _ _ _ _ _;have hse1:=Ys hse;have hse2:=Ys hse.symm;clear hse;have hKe:=(hmv w.heap.size (by omega)).trans HKp.out;generalize ((((((Y1.setCell ⟨V1.heap.size,0,none⟩ (.int .i64 x.prec)).setCell ⟨V1.heap.size,1,none⟩ (.int .i64 x.order)).setCell ⟨V1.heap.size,2,none⟩ (.slice FA x.start.c.length fc)).setCell ⟨V1.heap.size,3,none⟩ (.slice FB x.start.a.length fd)).setCell ⟨V1.heap.size,4,none⟩ (.slice (some ⟨R1,0,none⟩) x.start.r.length fq)).setCell ⟨V1.heap.size,5,none⟩ (.slice none 0 0))=WE at *;replace HKp:=Zh hKe;clear hKe;refine hK.out _ _ (HKp.out) (fun hH=>?_);clear hK K;refine wpAnyH_done (by kernel_rfl) ?_ _;go_wp2_with fail
   go_meet
   have hi:=HI.out;have hn:=HN.out;have hl:=hi.le;have hr:=hi.r;have hl2:=hi.l;refine ⟨_,FA,fc,FB,fd,_,fq,rfl,HG2.out,hgg,?_,hbe⟩;have e1:=(hn.on.move (fun b hb=>hmv b (by omega))).sub (E':=WE.heap.size) (F':=fun b=>W0.heap.size<=b/\b<WE.heap.size/\b≠V1.heap.size) (by omega) (fun b hb=>⟨by omega,by omega,by omega⟩);have e2:=hi.row.move (hmv R1 (by omega)) (fun b hb=>hmv b (by omega));exact fun W h1 h2=>⟨(e1 W h1 h2).1,(e1 W h1 h2).2,(e2.move (h2 R1 ⟨by omega,by omega,by omega⟩) (fun b hb=>h2 b ⟨by omega,by omega,by omega⟩)).sl rfl hfq1 hfq2 (by omega)⟩
  refine Yc (o:=⟨_,_,_,_,_,_⟩) rfl (fun K hK=>?_) Yd
  go_simp
  have hgs1:(Wd.alloc (.cells #[.int .i64 0,.int .i64 0,.slice none 0 0,.slice none 0 0,.slice none 0 0,.slice none 0 0] 29)).heap.size<=Wd.heap.size+1:=by simp
  have hgs2:Wd.heap.size+1<=(Wd.alloc (.cells #[.int .i64 0,.int .i64 0,.slice none 0 0,.slice none 0 0,.slice none 0 0,.slice none 0 0] 29)).heap.size:=by simp
  have HG:Hid (Blk (Wd.alloc (.cells #[.int .i64 0,.int .i64 0,.slice none 0 0,.slice none 0 0,.slice none 0 0,.slice none 0 0] 29)) Wd.heap.size 29 #[.int .i64 0,.int .i64 0,.slice none 0 0,.slice none 0 0,.slice none 0 0,.slice none 0 0]):=Blk.new _ _ _;have hc:=zAE Wd (.cells #[.int .i64 0,.int .i64 0,.slice none 0 0,.slice none 0 0,.slice none 0 0,.slice none 0 0] 29)
  try replace HN:=Zh (HN.out.next hc)
  try replace HI:=Zh (HI.out.next hc)
  replace hB:=zAA hB hc;replace HKp:=Zh (HK.out _ hB);clear hc;generalize (Wd.alloc (.cells #[.int .i64 0,.int .i64 0,.slice none 0 0,.slice none 0 0,.slice none 0 0,.slice none 0 0] 29))=Y2 at *;refine hK.out _ _ (HKp.out) (fun hH=>?_);clear hK K;refine Yj (rs:=[6]) (by kernel_rfl) (by simp) ?_;refine Yc (o:=⟨_,_,_,_,_,_⟩) rfl (fun K hK=>?_) Yd
  go_simp
  refine (HC1.out _ hB).mono ?_;rintro e V5 ⟨FA,fc,FB,fd,R1,fq,rfl,hr0,hr1,hfq1,hfq2,hgot,hrow,hc⟩
  have HN:=Zh hgot;have HI:=Zh hrow;have hs1:=hc.size
  try replace HG:=Zh (HG.out.next hc)
  replace hB:=zAA hB hc;replace HKp:=Zh (HK.out _ hB);obtain ⟨lo1,hlo1⟩:∃n,n=Y2.heap.size:=⟨_,rfl⟩;obtain ⟨hi1,hhi1⟩:∃n,n=V5.heap.size:=⟨_,rfl⟩;rw [<- hlo1,<- hhi1] at HN HI;clear hc hgot hrow;go_wp2_with fail
  refine hK.out _ _ (HKp.out) (fun hH=>?_);clear hK K;refine tk (i:=7) (oi:=⟨_,_,_,_,_,_⟩) (v:=?_) rfl (by rfl) ?_ hH ?_;rotate_left
  ·(intro w hSw;obtain ⟨p0,p1,p2,p3,p4,p5⟩:=Blk.cells6 hSw;go_simp;try (with_reducible rfl))
  simp only [Act.put,sT,sZ,sS];refine Yj (rs:=[9]) (by kernel_rfl) (by simp) ?_;refine Yc (o:=⟨_,_,_,_,_,_⟩) rfl (fun K hK=>?_) Yd;obtain ⟨r0,r1,r2,r3,r4,r5⟩:=HG.out.cells6;have f0:=HG.out.frozen 0;have f1:=HG.out.frozen 1;have f2:=HG.out.frozen 2;have f3:=HG.out.frozen 3;have f4:=HG.out.frozen 4;have f5:=HG.out.frozen 5
  go_simp
  clear r0 r1 r2 r3 r4 r5 f0 f1 f2 f3 f4 f5;have hgg:W0.heap.size<=Wd.heap.size:=by omega
  have HG2:=Zh (HG.out.set6 (.int .i64 x.prec) (.int .i64 x.order) (.slice FA x.start.c.length fc) (.slice FB x.start.a.length fd) (.slice (some ⟨R1,0,none⟩) x.start.r.length fq) (.slice none 0 0));have hbe:=zAS hB hgg (.int .i64 x.prec) (.int .i64 x.order) (.slice FA x.start.c.length fc) (.slice FB x.start.a.length fd) (.slice (some ⟨R1,0,none⟩) x.start.r.length fq) (.slice none 0 0);have hne:Wd.heap.size<lo1\/hi1<=Wd.heap.size:=by omega
  have hmv:∀b,b≠Wd.heap.size->((((((V5.setCell ⟨Wd.heap.size,0,none⟩ (.int .i64 x.prec)).setCell ⟨Wd.heap.size,1,none⟩ (.int .i64 x.order)).setCell ⟨Wd.heap.size,2,none⟩ (.slice FA x.start.c.length fc)).setCell ⟨Wd.heap.size,3,none⟩ (.slice FB x.start.a.length fd)).setCell ⟨Wd.heap.size,4,none⟩ (.slice (some ⟨R1,0,none⟩) x.start.r.length fq)).setCell ⟨Wd.heap.size,5,none⟩ (.slice none 0 0)).heap[b]? = V5.heap[b]?:=fun b hb=>zBy hb _ _ _ _ _ _
  have hse:((((((V5.setCell ⟨Wd.heap.size,0,none⟩ (.int .i64 x.prec)).setCell ⟨Wd.heap.size,1,none⟩ (.int .i64 x.order)).setCell ⟨Wd.heap.size,2,none⟩ (.slice FA x.start.c.length fc)).setCell ⟨Wd.heap.size,3,none⟩ (.slice FB x.start.a.length fd)).setCell ⟨Wd.heap.size,4,none⟩ (.slice (some ⟨R1,0,none⟩) x.start.r.length fq)).setCell ⟨Wd.heap.size,5,none⟩ (.slice none 0 0)).heap.size=V5.heap.size:=zBz _ _ _ _ _ _;have hse1:=Ys hse;have hse2:=Ys hse.symm;clear hse;have hKe:=(hmv w.heap.size (by omega)).trans HKp.out;generalize ((((((V5.setCell ⟨Wd.heap.size,0,none⟩ (.int .i64 x.prec)).setCell ⟨Wd.heap.size,1,none⟩ (.int .i64 x.order)).setCell ⟨Wd.heap.size,2,none⟩ (.slice FA x.start.c.length fc)).setCell ⟨Wd.heap.size,3,none⟩ (.slice FB x.start.a.length fd)).setCell ⟨Wd.heap.size,4,none⟩ (.slice (some ⟨R1,0,none⟩) x.start.r.length fq)).setCell ⟨Wd.heap.size,5,none⟩ (.slice none 0 0))=WE at *;replace HKp:=Zh hKe;clear hKe;refine hK.out _ _ (HKp.out) (fun hH=>?_);clear hK K;refine wpAnyH_done (by kernel_rfl) ?_ _;go_wp2_with fail
  go_meet
  have hi:=HI.out;have hn:=HN.out;have hl:=hi.le;have hr:=hi.r;have hl2:=hi.l;refine ⟨_,FA,fc,FB,fd,_,fq,rfl,HG2.out,hgg,?_,hbe⟩;have e1:=(hn.on.move (fun b hb=>hmv b (by omega))).sub (E':=WE.heap.size) (F':=fun b=>W0.heap.size<=b/\b<WE.heap.size/\b≠Wd.heap.size) (by omega) (fun b hb=>⟨by omega,by omega,by omega⟩);have e2:=hi.row.move (hmv R1 (by omega)) (fun b hb=>hmv b (by omega));exact fun W h1 h2=>⟨(e1 W h1 h2).1,(e1 W h1 h2).2,(e2.move (h2 R1 ⟨by omega,by omega,by omega⟩) (fun b hb=>h2 b ⟨by omega,by omega,by omega⟩)).sl rfl hfq1 hfq2 (by omega)⟩
 case rest=>
  obtain ⟨g,A,c,B,d,C,q,rfl,hm⟩:=hcut;have HM:=Zh hm;have hbw:=zAA HB0.out hm.b;have kx2:=kx.next hm.b;have HBW:=Zh hbw;have HR0:=Zh (HKR.out.next hm.b);have hg0:=hm.g0;have hG:=hm.blk;have hgl:=hG.lt;have hwl:=hm.b.size;clear hm hbw p0 p1 p2 p3 p4 p5 kx HC1 HKR;have HG0:=Zh hG;obtain ⟨p0,p1,p2,p3,p4,p5⟩:=kx2.cells6;have HKX:=Zh kx2;clear kx2 hG;go_wp2_with fail
  clear p0 p1 p2 p3 p4 p5
  go_loopw [17] (fun i wr=>∃ (k:Nat) (v:Value) (fs:List (List Value)) (ps:List LkB),k<=xln/\i=.int .i64 k/\Hid (zIN 86 8 RB LkB.B LkB.E wc.heap.size wr v fs ps)/\Hid (ps.map LkB.x=x.links.take k)/\Hid (Blk wr g 29 #[.int .i64 x.prec,.int .i64 x.order,.slice A x.start.c.length c,.slice B x.start.a.length d,.slice C x.start.r.length q,v])/\Hid (KR g wc wr)) (fun i _=>xln - (intOf i).toNat)
  case atStart=>exact ⟨0,_,[],[],by omega,rfl,zIN.nil _ _ _ _ _ _,rfl,HG0.out,KR.refl _ _⟩
  case round=>
   obtain ⟨k,v,fs,ps,hk,rfl,HA,HM2,HG,HK⟩:=hrel;by_cases hlt:k<xln
   ·obtain ⟨b,off,y,us,rfl,hbl,hd,hk1,hR,hc⟩:=HX4.out.get hlt
    have HBy:=Zh (HBL.out y (Yk hd));have HZy:=Zh (HZL.out y (Yk hd));have HT:Hid (x.links.take (k+1)=x.links.take k++[y]):=by unfold Hid;rw [List.take_add_one,hd];rfl
    obtain ⟨yH,yhn,yhc,yT,ytn,ytc,yA,yn,yc,yB,ym,yd,yC,yp,yq,yV,yvn,yvc,rfl,hy1,hy2,hy3,hy4,hy5,hy6⟩:=hR;have hbr:=HBW.out.trans (HK.out.below (B:=w.heap.size) (by omega) (by omega));have q0:=(hbr.cell (p:=⟨b,off+k*8,none⟩) hbl).trans (hc 0 _ rfl);have q1:=(hbr.cell (p:=⟨b,off+k*8+1,none⟩) hbl).trans (hc 1 _ rfl);have q2:=(hbr.cell (p:=⟨b,off+k*8+2,none⟩) hbl).trans (hc 2 _ rfl);have q3:=(hbr.cell (p:=⟨b,off+k*8+3,none⟩) hbl).trans (hc 3 _ rfl);have q4:=(hbr.cell (p:=⟨b,off+k*8+4,none⟩) hbl).trans (hc 4 _ rfl);have q5:=(hbr.cell (p:=⟨b,off+k*8+5,none⟩) hbl).trans (hc 5 _ rfl);have q6:=(hbr.cell (p:=⟨b,off+k*8+6,none⟩) hbl).trans (hc 6 _ rfl);have q7:=(hbr.cell (p:=⟨b,off+k*8+7,none⟩) hbl).trans (hc 7 _ rfl);have hb1:=zAE wr (.cells #[.bool y.h.neg,.slice yH yhn yhc,.int .i64 y.h.e,.slice yT ytn ytc,.slice yA yn yc,.slice yB ym yd,.slice yC yp yq,.slice yV yvn yvc] 86);have hbb:=hbr.trans (hb1.mono hbr.size);have yl1:=hy2.len;have yl2:=hy6.len;have hzt:=HZy.out.t;have hzv:=HZy.out.v;have hytn:ytn<=1000:=by omega
    have hyvn:yvn<=1000:=by omega
    have H1:=Zh (fun W (hW:Below (wr.alloc (.cells #[.bool y.h.neg,.slice yH yhn yhc,.int .i64 y.h.e,.slice yT ytn ytc,.slice yA yn yc,.slice yB ym yd,.slice yC yp yq,.slice yV yvn yvc] 86)).heap.size (wr.alloc (.cells #[.bool y.h.neg,.slice yH yhn yhc,.int .i64 y.h.e,.slice yT ytn ytc,.slice yA yn yc,.slice yB ym yd,.slice yC yp yq,.slice yV yvn yvc] 86)) W)=>zCm [.bool y.h.neg,.slice yH yhn yhc,.int .i64 y.h.e] y.h W ⟨yH,yhn,yhc,rfl,(hy1.below hbb).below hW⟩ HBy.out.h);have H2:=Zh (fun W (hW:Below (wr.alloc (.cells #[.bool y.h.neg,.slice yH yhn yhc,.int .i64 y.h.e,.slice yT ytn ytc,.slice yA yn yc,.slice yB ym yd,.slice yC yp yq,.slice yV yvn yvc] 86)).heap.size (wr.alloc (.cells #[.bool y.h.neg,.slice yH yhn yhc,.int .i64 y.h.e,.slice yT ytn ytc,.slice yA yn yc,.slice yB ym yd,.slice yC yp yq,.slice yV yvn yvc] 86)) W)=>zEU yT ytn ytc y.tube W ((hy2.next zAX hbb).next zAX hW) HBy.out.t hytn);have H3:=Zh (fun W (hW:Below (wr.alloc (.cells #[.bool y.h.neg,.slice yH yhn yhc,.int .i64 y.h.e,.slice yT ytn ytc,.slice yA yn yc,.slice yB ym yd,.slice yC yp yq,.slice yV yvn yvc] 86)).heap.size (wr.alloc (.cells #[.bool y.h.neg,.slice yH yhn yhc,.int .i64 y.h.e,.slice yT ytn ytc,.slice yA yn yc,.slice yB ym yd,.slice yC yp yq,.slice yV yvn yvc] 86)) W)=>zET [.slice yA yn yc,.slice yB ym yd,.slice yC yp yq] y.e W ⟨yA,yn,yc,yB,ym,yd,yC,yp,yq,rfl,(hy3.next zAQ hbb).next zAQ hW,(hy4.next zAh hbb).next zAh hW,(hy5.next zAX hbb).next zAX hW⟩ HBy.out.e HZy.out.e);have H4:=Zh (fun W (hW:Below (wr.alloc (.cells #[.bool y.h.neg,.slice yH yhn yhc,.int .i64 y.h.e,.slice yT ytn ytc,.slice yA yn yc,.slice yB ym yd,.slice yC yp yq,.slice yV yvn yvc] 86)).heap.size (wr.alloc (.cells #[.bool y.h.neg,.slice yH yhn yhc,.int .i64 y.h.e,.slice yT ytn ytc,.slice yA yn yc,.slice yB ym yd,.slice yC yp yq,.slice yV yvn yvc] 86)) W)=>zF5 yV yvn yvc y.v W ((hy6.next zAh hbb).next zAh hW) HBy.out.v hyvn HZy.out.l);have HP:=Zh HZy.out.p;have hkx:=Blk.new wr 86 #[.bool y.h.neg,.slice yH yhn yhc,.int .i64 y.h.e,.slice yT ytn ytc,.slice yA yn yc,.slice yB ym yd,.slice yC yp yq,.slice yV yvn yvc];have HKd:Hid (∀V,Below (wr.alloc (.cells #[.bool y.h.neg,.slice yH yhn yhc,.int .i64 y.h.e,.slice yT ytn ytc,.slice yA yn yc,.slice yB ym yd,.slice yC yp yq,.slice yV yvn yvc] 86)).heap.size (wr.alloc (.cells #[.bool y.h.neg,.slice yH yhn yhc,.int .i64 y.h.e,.slice yT ytn ytc,.slice yA yn yc,.slice yB ym yd,.slice yC yp yq,.slice yV yvn yvc] 86)) V->(fun W=>Blk W wr.heap.size 86 #[.bool y.h.neg,.slice yH yhn yhc,.int .i64 y.h.e,.slice yT ytn ytc,.slice yA yn yc,.slice yB ym yd,.slice yC yp yq,.slice yV yvn yvc]) V):=fun V hV=>hkx.next hV
    have HB1:=Zh hb1;have hz1:(wr.alloc (.cells #[.bool y.h.neg,.slice yH yhn yhc,.int .i64 y.h.e,.slice yT ytn ytc,.slice yA yn yc,.slice yB ym yd,.slice yC yp yq,.slice yV yvn yvc] 86)).heap.size=wr.heap.size+1:=by simp
    have hz2:=Ys hz1;have hz3:=Ys hz1.symm;have hwr:=HK.out.size;clear hc hk1 hd hy1 hy2 hy3 hy4 hy5 hy6 hb1 hbb hkx hbr hz1 yl1 yl2 hzt hzv;go_wp2_with fail
    clear q0 q1 q2 q3 q4 q5 q6 q7;generalize wr.alloc (.cells #[.bool y.h.neg,.slice yH yhn yhc,.int .i64 y.h.e,.slice yT ytn ytc,.slice yA yn yc,.slice yB ym yd,.slice yC yp yq,.slice yV yvn yvc] 86)=W1 at *;have hB:=zBw W1;have hsd1:W1.drew.heap.size<=W1.heap.size:=Ya _;have hsd2:W1.heap.size<=W1.drew.heap.size:=Ya _;have HKp:=Zh (HKd.out _ hB);have HG1:=Zh (HG.out.next (zAA HB1.out hB));have HA1:=Zh (HA.out.below (zAA HB1.out hB));have HQ:=Zh ((HK.out.trans (KR.of HB1.out)).trans (KR.of hB));have HOWN:=Zh (fun o ho=>(HA.out.own.lt o ho).2);refine wp_region_held_drew (S:=(fun W=>Blk W wr.heap.size 86 #[.bool y.h.neg,.slice yH yhn yhc,.int .i64 y.h.e,.slice yT ytn ytc,.slice yA yn yc,.slice yB ym yd,.slice yC yp yq,.slice yV yvn yvc])) (by kernel_rfl) (HKp.out) (fun hH=>?_);generalize W1.drew=Wd at *;refine tk (i:=0) (oi:=⟨_,_,_,_,_,_⟩) (v:=?_) rfl (by rfl) ?_ hH ?_;rotate_left
    ·(intro w hSw;obtain ⟨p0,p1,p2,p3,p4,p5,p6,p7⟩:=Blk.cells8 hSw;go_simp;try (with_reducible rfl))
    simp only [Act.put,sT,sZ,sS];refine tk (i:=2) (oi:=⟨_,_,_,_,_,_⟩) (v:=?_) rfl (by rfl) ?_ hH ?_;rotate_left
    ·(intro w hSw;obtain ⟨p0,p1,p2,p3,p4,p5,p6,p7⟩:=Blk.cells8 hSw;go_simp;try (with_reducible rfl))
    simp only [Act.put,sT,sZ,sS];refine tk (i:=3) (oi:=⟨_,_,_,_,_,_⟩) (v:=?_) rfl (by rfl) ?_ hH ?_;rotate_left
    ·(intro w hSw;obtain ⟨p0,p1,p2,p3,p4,p5,p6,p7⟩:=Blk.cells8 hSw;go_simp;try (with_reducible rfl))
    simp only [Act.put,sT,sZ,sS];refine tk (i:=5) (oi:=⟨_,_,_,_,_,_⟩) (v:=?_) rfl (by rfl) ?_ hH ?_;rotate_left
    ·(intro w hSw;obtain ⟨p0,p1,p2,p3,p4,p5,p6,p7⟩:=Blk.cells8 hSw;go_simp;try (with_reducible rfl))
    simp only [Act.put,sT,sZ,sS];refine tk (i:=6) (oi:=⟨_,_,_,_,_,_⟩) (v:=?_) rfl (by rfl) ?_ hH ?_;rotate_left
    ·(intro w hSw;obtain ⟨p0,p1,p2,p3,p4,p5,p6,p7⟩:=Blk.cells8 hSw;go_simp;try (with_reducible rfl))
    simp only [Act.put,sT,sZ,sS];refine tk (i:=8) (oi:=⟨_,_,_,_,_,_⟩) (v:=?_) rfl (by rfl) ?_ hH ?_;rotate_left
    ·(intro w hSw;obtain ⟨p0,p1,p2,p3,p4,p5,p6,p7⟩:=Blk.cells8 hSw;go_simp;try (with_reducible rfl))
    simp only [Act.put,sT,sZ,sS];refine tk (i:=9) (oi:=⟨_,_,_,_,_,_⟩) (v:=?_) rfl (by rfl) ?_ hH ?_;rotate_left
    ·(intro w hSw;obtain ⟨p0,p1,p2,p3,p4,p5,p6,p7⟩:=Blk.cells8 hSw;go_simp;try (with_reducible rfl))
    simp only [Act.put,sT,sZ,sS];refine tk (i:=11) (oi:=⟨_,_,_,_,_,_⟩) (v:=?_) rfl (by rfl) ?_ hH ?_;rotate_left
    ·(intro w hSw;obtain ⟨p0,p1,p2,p3,p4,p5,p6,p7⟩:=Blk.cells8 hSw;go_simp;try (with_reducible rfl))
    simp only [Act.put,sT,sZ,sS];refine tk (i:=12) (oi:=⟨_,_,_,_,_,_⟩) (v:=?_) rfl (by rfl) ?_ hH ?_;rotate_left
    ·(intro w hSw;obtain ⟨p0,p1,p2,p3,p4,p5,p6,p7⟩:=Blk.cells8 hSw;go_simp;try (with_reducible rfl))
    simp only [Act.put,sT,sZ,sS];refine Yj (rs:=[1,4]) (by kernel_rfl) (by simp) ?_;refine Yc (o:=⟨_,_,_,_,_,_⟩) rfl (fun K hK=>?ga1) ?gb1
    case' ga1=>
     obtain ⟨r0,r1,r2,r3,r4,r5⟩:=HG1.out.cells6
     go_simp
     clear r0 r1 r2 r3 r4 r5;refine hK.out _ _ (HKp.out) (fun hH=>?_);clear hK K;refine Yj (rs:=[4]) (by kernel_rfl) (by simp) ?_;refine Yc (o:=⟨_,_,_,_,_,_⟩) rfl (fun K hK=>?_) Yd
     go_simp
     refine (H1.out _ hB).mono ?_;rintro e V4 ⟨NA,nn,nc,rfl,hly,hc⟩
     obtain ⟨lo1,hlo1⟩:∃n,n=Wd.heap.size:=⟨_,rfl⟩;obtain ⟨hi1,hhi1⟩:∃n,n=V4.heap.size:=⟨_,rfl⟩;have hs1:=hc.size
     try replace HNum:=Zh (HNum.out.next hc)
     try replace HTube:=Zh (HTube.out.next hc)
     try replace HF:=Zh (HF.out.next hc)
     try replace HFR:=Zh (HFR.out.next hc)
     try replace HV:=Zh (HV.out.next hc)
     replace HG1:=Zh (HG1.out.next hc);replace HA1:=Zh (HA1.out.below hc);replace HQ:=Zh (HQ.out.trans (KR.of hc));replace hB:=zAA hB hc;replace HKp:=Zh (HKd.out _ hB);have HNum:=Zh (Got.of hly hlo1 hhi1);clear hc hly;go_wp2_with fail
     refine hK.out _ _ (HKp.out) (fun hH=>?_);clear hK K;refine Yj (rs:=[7]) (by kernel_rfl) (by simp) ?_;refine Yc (o:=⟨_,_,_,_,_,_⟩) rfl (fun K hK=>?_) Yd
     go_simp
     refine (H2.out _ hB).mono ?_;rintro e V7 ⟨va,fsa,rfl,hacc,hc⟩
     obtain ⟨lo2,hlo2⟩:∃n,n=V4.heap.size:=⟨_,rfl⟩;obtain ⟨hi2,hhi2⟩:∃n,n=V7.heap.size:=⟨_,rfl⟩;have hs2:=hc.size
     try replace HNum:=Zh (HNum.out.next hc)
     try replace HTube:=Zh (HTube.out.next hc)
     try replace HF:=Zh (HF.out.next hc)
     try replace HFR:=Zh (HFR.out.next hc)
     try replace HV:=Zh (HV.out.next hc)
     replace HG1:=Zh (HG1.out.next hc);replace HA1:=Zh (HA1.out.below hc);replace HQ:=Zh (HQ.out.trans (KR.of hc));replace hB:=zAA hB hc;replace HKp:=Zh (HKd.out _ hB);obtain ⟨T1,q1,rfl,ht1,hq1,hq2,hrow⟩:=hacc.row HP.out;have ht2:=hrow.lt;have HTube:Hid (zPg lo2 hi2 T1 V7 y.tube):=⟨by omega,by omega,by omega,hrow.sub (by omega) (fun b hb=>⟨by omega,by omega,hb.2.2⟩)⟩;clear hc hacc hrow;go_wp2_with fail
     refine hK.out _ _ (HKp.out) (fun hH=>?_);clear hK K;refine Yj (rs:=[10]) (by kernel_rfl) (by simp) ?_;refine Yc (o:=⟨_,_,_,_,_,_⟩) rfl (fun K hK=>?_) Yd
     go_simp
     refine (H3.out _ hB).mono ?_;rintro e V10 ⟨FA,fc,FB,fd,R1,fq,rfl,hr0,hr1,hfq1,hfq2,hgot,hrow,hc⟩
     obtain ⟨lo3,hlo3⟩:∃n,n=V7.heap.size:=⟨_,rfl⟩;obtain ⟨hi3,hhi3⟩:∃n,n=V10.heap.size:=⟨_,rfl⟩;have hs3:=hc.size
     try replace HNum:=Zh (HNum.out.next hc)
     try replace HTube:=Zh (HTube.out.next hc)
     try replace HF:=Zh (HF.out.next hc)
     try replace HFR:=Zh (HFR.out.next hc)
     try replace HV:=Zh (HV.out.next hc)
     replace HG1:=Zh (HG1.out.next hc);replace HA1:=Zh (HA1.out.below hc);replace HQ:=Zh (HQ.out.trans (KR.of hc));replace hB:=zAA hB hc;replace HKp:=Zh (HKd.out _ hB);rw [<- hlo3,<- hhi3] at hgot hrow;have HF:=Zh hgot;have HFR:=Zh hrow;clear hc hgot hrow;go_wp2_with fail
     refine hK.out _ _ (HKp.out) (fun hH=>?_);clear hK K;refine Yj (rs:=[13]) (by kernel_rfl) (by simp) ?_;refine Yc (o:=⟨_,_,_,_,_,_⟩) rfl (fun K hK=>?_) Yd
     go_simp
     refine (H4.out _ hB).mono ?_;rintro e V13 ⟨VA,vc,rfl,hly,hc⟩
     obtain ⟨lo4,hlo4⟩:∃n,n=V10.heap.size:=⟨_,rfl⟩;obtain ⟨hi4,hhi4⟩:∃n,n=V13.heap.size:=⟨_,rfl⟩;have hs4:=hc.size
     try replace HNum:=Zh (HNum.out.next hc)
     try replace HTube:=Zh (HTube.out.next hc)
     try replace HF:=Zh (HF.out.next hc)
     try replace HFR:=Zh (HFR.out.next hc)
     try replace HV:=Zh (HV.out.next hc)
     replace HG1:=Zh (HG1.out.next hc);replace HA1:=Zh (HA1.out.below hc);replace HQ:=Zh (HQ.out.trans (KR.of hc));replace hB:=zAA hB hc;replace HKp:=Zh (HKd.out _ hB);have HV:=Zh (Got.of hly hlo4 hhi4);clear hc hly;go_wp2_with fail
     refine hK.out _ _ (HKp.out) (fun hH=>?_);clear hK K;refine tk (i:=14) (oi:=⟨_,_,_,_,_,_⟩) (v:=?_) rfl (by rfl) ?_ hH ?_;rotate_left
     ·(intro w hSw;obtain ⟨p0,p1,p2,p3,p4,p5,p6,p7⟩:=Blk.cells8 hSw;go_simp;try (with_reducible rfl))
     simp only [Act.put,sT,sZ,sS];refine Yj (rs:=[15]) (by kernel_rfl) (by simp) ?_;refine Yc (o:=⟨_,_,_,_,_,_⟩) rfl (fun K hK=>?_) Yd
     go_simp
     have hges1:(V13.alloc (.cells #[.bool y.h.neg,.slice NA nn nc,.int .i64 y.h.e,.slice (some ⟨T1,0,none⟩) y.tube.length q1,.slice FA y.e.c.length fc,.slice FB y.e.a.length fd,.slice (some ⟨R1,0,none⟩) y.e.r.length fq,.slice VA y.v.length vc] 86)).heap.size<=V13.heap.size+1:=by simp
     have hges2:V13.heap.size+1<=(V13.alloc (.cells #[.bool y.h.neg,.slice NA nn nc,.int .i64 y.h.e,.slice (some ⟨T1,0,none⟩) y.tube.length q1,.slice FA y.e.c.length fc,.slice FB y.e.a.length fd,.slice (some ⟨R1,0,none⟩) y.e.r.length fq,.slice VA y.v.length vc] 86)).heap.size:=by simp
     have HNB:Hid (Blk (V13.alloc (.cells #[.bool y.h.neg,.slice NA nn nc,.int .i64 y.h.e,.slice (some ⟨T1,0,none⟩) y.tube.length q1,.slice FA y.e.c.length fc,.slice FB y.e.a.length fd,.slice (some ⟨R1,0,none⟩) y.e.r.length fq,.slice VA y.v.length vc] 86)) V13.heap.size 86 #[.bool y.h.neg,.slice NA nn nc,.int .i64 y.h.e,.slice (some ⟨T1,0,none⟩) y.tube.length q1,.slice FA y.e.c.length fc,.slice FB y.e.a.length fd,.slice (some ⟨R1,0,none⟩) y.e.r.length fq,.slice VA y.v.length vc]):=Blk.new _ _ _;have hc:=zAE V13 (.cells #[.bool y.h.neg,.slice NA nn nc,.int .i64 y.h.e,.slice (some ⟨T1,0,none⟩) y.tube.length q1,.slice FA y.e.c.length fc,.slice FB y.e.a.length fd,.slice (some ⟨R1,0,none⟩) y.e.r.length fq,.slice VA y.v.length vc] 86)
     try replace HNum:=Zh (HNum.out.next hc)
     try replace HTube:=Zh (HTube.out.next hc)
     try replace HF:=Zh (HF.out.next hc)
     try replace HFR:=Zh (HFR.out.next hc)
     try replace HV:=Zh (HV.out.next hc)
     replace HG1:=Zh (HG1.out.next hc);replace HA1:=Zh (HA1.out.below hc);replace HQ:=Zh (HQ.out.trans (KR.of hc));replace hB:=zAA hB hc;replace HKp:=Zh (HKd.out _ hB);clear hc;generalize (V13.alloc (.cells #[.bool y.h.neg,.slice NA nn nc,.int .i64 y.h.e,.slice (some ⟨T1,0,none⟩) y.tube.length q1,.slice FA y.e.c.length fc,.slice FB y.e.a.length fd,.slice (some ⟨R1,0,none⟩) y.e.r.length fq,.slice VA y.v.length vc] 86))=Y15 at *;refine hK.out _ _ (HKp.out) (fun hH=>?_);clear hK K
    case' gb1=>
     refine Yc (o:=⟨_,_,_,_,_,_⟩) rfl (fun K hK=>?ga2) Yd
     case' ga2=>
      go_simp
      refine (H1.out _ hB).mono ?_;rintro e V4 ⟨NA,nn,nc,rfl,hly,hc⟩
      obtain ⟨lo1,hlo1⟩:∃n,n=Wd.heap.size:=⟨_,rfl⟩;obtain ⟨hi1,hhi1⟩:∃n,n=V4.heap.size:=⟨_,rfl⟩;have hs1:=hc.size
      try replace HNum:=Zh (HNum.out.next hc)
      try replace HTube:=Zh (HTube.out.next hc)
      try replace HF:=Zh (HF.out.next hc)
      try replace HFR:=Zh (HFR.out.next hc)
      try replace HV:=Zh (HV.out.next hc)
      replace HG1:=Zh (HG1.out.next hc);replace HA1:=Zh (HA1.out.below hc);replace HQ:=Zh (HQ.out.trans (KR.of hc));replace hB:=zAA hB hc;replace HKp:=Zh (HKd.out _ hB);have HNum:=Zh (Got.of hly hlo1 hhi1);clear hc hly;go_wp2_with fail
      refine hK.out _ _ (HKp.out) (fun hH=>?_);clear hK K;refine Yj (rs:=[1,7]) (by kernel_rfl) (by simp) ?_;refine Yc (o:=⟨_,_,_,_,_,_⟩) rfl (fun K hK=>?ga3) ?gb3
      case' ga3=>
       obtain ⟨r0,r1,r2,r3,r4,r5⟩:=HG1.out.cells6
       go_simp
       clear r0 r1 r2 r3 r4 r5;refine hK.out _ _ (HKp.out) (fun hH=>?_);clear hK K;refine Yj (rs:=[7]) (by kernel_rfl) (by simp) ?_;refine Yc (o:=⟨_,_,_,_,_,_⟩) rfl (fun K hK=>?_) Yd
       go_simp
       refine (H2.out _ hB).mono ?_;rintro e V7 ⟨va,fsa,rfl,hacc,hc⟩
       obtain ⟨lo2,hlo2⟩:∃n,n=V4.heap.size:=⟨_,rfl⟩;obtain ⟨hi2,hhi2⟩:∃n,n=V7.heap.size:=⟨_,rfl⟩;have hs2:=hc.size
       try replace HNum:=Zh (HNum.out.next hc)
       try replace HTube:=Zh (HTube.out.next hc)
       try replace HF:=Zh (HF.out.next hc)
       try replace HFR:=Zh (HFR.out.next hc)
       try replace HV:=Zh (HV.out.next hc)
       replace HG1:=Zh (HG1.out.next hc);replace HA1:=Zh (HA1.out.below hc);replace HQ:=Zh (HQ.out.trans (KR.of hc));replace hB:=zAA hB hc;replace HKp:=Zh (HKd.out _ hB);obtain ⟨T1,q1,rfl,ht1,hq1,hq2,hrow⟩:=hacc.row HP.out;have ht2:=hrow.lt;have HTube:Hid (zPg lo2 hi2 T1 V7 y.tube):=⟨by omega,by omega,by omega,hrow.sub (by omega) (fun b hb=>⟨by omega,by omega,hb.2.2⟩)⟩;clear hc hacc hrow;go_wp2_with fail
       refine hK.out _ _ (HKp.out) (fun hH=>?_);clear hK K;refine Yj (rs:=[10]) (by kernel_rfl) (by simp) ?_;refine Yc (o:=⟨_,_,_,_,_,_⟩) rfl (fun K hK=>?_) Yd
       go_simp
       refine (H3.out _ hB).mono ?_;rintro e V10 ⟨FA,fc,FB,fd,R1,fq,rfl,hr0,hr1,hfq1,hfq2,hgot,hrow,hc⟩
       obtain ⟨lo3,hlo3⟩:∃n,n=V7.heap.size:=⟨_,rfl⟩;obtain ⟨hi3,hhi3⟩:∃n,n=V10.heap.size:=⟨_,rfl⟩;have hs3:=hc.size
       try replace HNum:=Zh (HNum.out.next hc)
       try replace HTube:=Zh (HTube.out.next hc)
       try replace HF:=Zh (HF.out.next hc)
       try replace HFR:=Zh (HFR.out.next hc)
       try replace HV:=Zh (HV.out.next hc)
       replace HG1:=Zh (HG1.out.next hc);replace HA1:=Zh (HA1.out.below hc);replace HQ:=Zh (HQ.out.trans (KR.of hc));replace hB:=zAA hB hc;replace HKp:=Zh (HKd.out _ hB);rw [<- hlo3,<- hhi3] at hgot hrow;have HF:=Zh hgot;have HFR:=Zh hrow;clear hc hgot hrow;go_wp2_with fail
       refine hK.out _ _ (HKp.out) (fun hH=>?_);clear hK K;refine Yj (rs:=[13]) (by kernel_rfl) (by simp) ?_;refine Yc (o:=⟨_,_,_,_,_,_⟩) rfl (fun K hK=>?_) Yd
       go_simp
       refine (H4.out _ hB).mono ?_;rintro e V13 ⟨VA,vc,rfl,hly,hc⟩
       obtain ⟨lo4,hlo4⟩:∃n,n=V10.heap.size:=⟨_,rfl⟩;obtain ⟨hi4,hhi4⟩:∃n,n=V13.heap.size:=⟨_,rfl⟩;have hs4:=hc.size
       try replace HNum:=Zh (HNum.out.next hc)
       try replace HTube:=Zh (HTube.out.next hc)
       try replace HF:=Zh (HF.out.next hc)
       try replace HFR:=Zh (HFR.out.next hc)
       try replace HV:=Zh (HV.out.next hc)
       replace HG1:=Zh (HG1.out.next hc);replace HA1:=Zh (HA1.out.below hc);replace HQ:=Zh (HQ.out.trans (KR.of hc));replace hB:=zAA hB hc;replace HKp:=Zh (HKd.out _ hB);have HV:=Zh (Got.of hly hlo4 hhi4);clear hc hly;go_wp2_with fail
       refine hK.out _ _ (HKp.out) (fun hH=>?_);clear hK K;refine tk (i:=14) (oi:=⟨_,_,_,_,_,_⟩) (v:=?_) rfl (by rfl) ?_ hH ?_;rotate_left
       ·(intro w hSw;obtain ⟨p0,p1,p2,p3,p4,p5,p6,p7⟩:=Blk.cells8 hSw;go_simp;try (with_reducible rfl))
       simp only [Act.put,sT,sZ,sS];refine Yj (rs:=[15]) (by kernel_rfl) (by simp) ?_;refine Yc (o:=⟨_,_,_,_,_,_⟩) rfl (fun K hK=>?_) Yd
       go_simp
       have hges1:(V13.alloc (.cells #[.bool y.h.neg,.slice NA nn nc,.int .i64 y.h.e,.slice (some ⟨T1,0,none⟩) y.tube.length q1,.slice FA y.e.c.length fc,.slice FB y.e.a.length fd,.slice (some ⟨R1,0,none⟩) y.e.r.length fq,.slice VA y.v.length vc] 86)).heap.size<=V13.heap.size+1:=by simp
       have hges2:V13.heap.size+1<=(V13.alloc (.cells #[.bool y.h.neg,.slice NA nn nc,.int .i64 y.h.e,.slice (some ⟨T1,0,none⟩) y.tube.length q1,.slice FA y.e.c.length fc,.slice FB y.e.a.length fd,.slice (some ⟨R1,0,none⟩) y.e.r.length fq,.slice VA y.v.length vc] 86)).heap.size:=by simp
       have HNB:Hid (Blk (V13.alloc (.cells #[.bool y.h.neg,.slice NA nn nc,.int .i64 y.h.e,.slice (some ⟨T1,0,none⟩) y.tube.length q1,.slice FA y.e.c.length fc,.slice FB y.e.a.length fd,.slice (some ⟨R1,0,none⟩) y.e.r.length fq,.slice VA y.v.length vc] 86)) V13.heap.size 86 #[.bool y.h.neg,.slice NA nn nc,.int .i64 y.h.e,.slice (some ⟨T1,0,none⟩) y.tube.length q1,.slice FA y.e.c.length fc,.slice FB y.e.a.length fd,.slice (some ⟨R1,0,none⟩) y.e.r.length fq,.slice VA y.v.length vc]):=Blk.new _ _ _;have hc:=zAE V13 (.cells #[.bool y.h.neg,.slice NA nn nc,.int .i64 y.h.e,.slice (some ⟨T1,0,none⟩) y.tube.length q1,.slice FA y.e.c.length fc,.slice FB y.e.a.length fd,.slice (some ⟨R1,0,none⟩) y.e.r.length fq,.slice VA y.v.length vc] 86)
       try replace HNum:=Zh (HNum.out.next hc)
       try replace HTube:=Zh (HTube.out.next hc)
       try replace HF:=Zh (HF.out.next hc)
       try replace HFR:=Zh (HFR.out.next hc)
       try replace HV:=Zh (HV.out.next hc)
       replace HG1:=Zh (HG1.out.next hc);replace HA1:=Zh (HA1.out.below hc);replace HQ:=Zh (HQ.out.trans (KR.of hc));replace hB:=zAA hB hc;replace HKp:=Zh (HKd.out _ hB);clear hc;generalize (V13.alloc (.cells #[.bool y.h.neg,.slice NA nn nc,.int .i64 y.h.e,.slice (some ⟨T1,0,none⟩) y.tube.length q1,.slice FA y.e.c.length fc,.slice FB y.e.a.length fd,.slice (some ⟨R1,0,none⟩) y.e.r.length fq,.slice VA y.v.length vc] 86))=Y15 at *;refine hK.out _ _ (HKp.out) (fun hH=>?_);clear hK K
      case' gb3=>
       refine Yc (o:=⟨_,_,_,_,_,_⟩) rfl (fun K hK=>?ga4) Yd
       case' ga4=>
        go_simp
        refine (H2.out _ hB).mono ?_;rintro e V7 ⟨va,fsa,rfl,hacc,hc⟩
        obtain ⟨lo2,hlo2⟩:∃n,n=V4.heap.size:=⟨_,rfl⟩;obtain ⟨hi2,hhi2⟩:∃n,n=V7.heap.size:=⟨_,rfl⟩;have hs2:=hc.size
        try replace HNum:=Zh (HNum.out.next hc)
        try replace HTube:=Zh (HTube.out.next hc)
        try replace HF:=Zh (HF.out.next hc)
        try replace HFR:=Zh (HFR.out.next hc)
        try replace HV:=Zh (HV.out.next hc)
        replace HG1:=Zh (HG1.out.next hc);replace HA1:=Zh (HA1.out.below hc);replace HQ:=Zh (HQ.out.trans (KR.of hc));replace hB:=zAA hB hc;replace HKp:=Zh (HKd.out _ hB);obtain ⟨T1,q1,rfl,ht1,hq1,hq2,hrow⟩:=hacc.row HP.out;have ht2:=hrow.lt;have HTube:Hid (zPg lo2 hi2 T1 V7 y.tube):=⟨by omega,by omega,by omega,hrow.sub (by omega) (fun b hb=>⟨by omega,by omega,hb.2.2⟩)⟩;clear hc hacc hrow;go_wp2_with fail
        refine hK.out _ _ (HKp.out) (fun hH=>?_);clear hK K;refine Yj (rs:=[1,10]) (by kernel_rfl) (by simp) ?_;refine Yc (o:=⟨_,_,_,_,_,_⟩) rfl (fun K hK=>?ga5) ?gb5
        case' ga5=>
         obtain ⟨r0,r1,r2,r3,r4,r5⟩:=HG1.out.cells6
         go_simp
         clear r0 r1 r2 r3 r4 r5;refine hK.out _ _ (HKp.out) (fun hH=>?_);clear hK K;refine Yj (rs:=[10]) (by kernel_rfl) (by simp) ?_;refine Yc (o:=⟨_,_,_,_,_,_⟩) rfl (fun K hK=>?_) Yd
         go_simp
         refine (H3.out _ hB).mono ?_;rintro e V10 ⟨FA,fc,FB,fd,R1,fq,rfl,hr0,hr1,hfq1,hfq2,hgot,hrow,hc⟩
         obtain ⟨lo3,hlo3⟩:∃n,n=V7.heap.size:=⟨_,rfl⟩;obtain ⟨hi3,hhi3⟩:∃n,n=V10.heap.size:=⟨_,rfl⟩;have hs3:=hc.size
         try replace HNum:=Zh (HNum.out.next hc)
         try replace HTube:=Zh (HTube.out.next hc)
         try replace HF:=Zh (HF.out.next hc)
         try replace HFR:=Zh (HFR.out.next hc)
         try replace HV:=Zh (HV.out.next hc)
         replace HG1:=Zh (HG1.out.next hc);replace HA1:=Zh (HA1.out.below hc);replace HQ:=Zh (HQ.out.trans (KR.of hc));replace hB:=zAA hB hc;replace HKp:=Zh (HKd.out _ hB);rw [<- hlo3,<- hhi3] at hgot hrow;have HF:=Zh hgot;have HFR:=Zh hrow;clear hc hgot hrow;go_wp2_with fail
         refine hK.out _ _ (HKp.out) (fun hH=>?_);clear hK K;refine Yj (rs:=[13]) (by kernel_rfl) (by simp) ?_;refine Yc (o:=⟨_,_,_,_,_,_⟩) rfl (fun K hK=>?_) Yd
         go_simp
         refine (H4.out _ hB).mono ?_;rintro e V13 ⟨VA,vc,rfl,hly,hc⟩
         obtain ⟨lo4,hlo4⟩:∃n,n=V10.heap.size:=⟨_,rfl⟩;obtain ⟨hi4,hhi4⟩:∃n,n=V13.heap.size:=⟨_,rfl⟩;have hs4:=hc.size
         try replace HNum:=Zh (HNum.out.next hc)
         try replace HTube:=Zh (HTube.out.next hc)
         try replace HF:=Zh (HF.out.next hc)
         try replace HFR:=Zh (HFR.out.next hc)
         try replace HV:=Zh (HV.out.next hc)
         replace HG1:=Zh (HG1.out.next hc);replace HA1:=Zh (HA1.out.below hc);replace HQ:=Zh (HQ.out.trans (KR.of hc));replace hB:=zAA hB hc;replace HKp:=Zh (HKd.out _ hB);have HV:=Zh (Got.of hly hlo4 hhi4);clear hc hly;go_wp2_with fail
         refine hK.out _ _ (HKp.out) (fun hH=>?_);clear hK K;refine tk (i:=14) (oi:=⟨_,_,_,_,_,_⟩) (v:=?_) rfl (by rfl) ?_ hH ?_;rotate_left
         ·(intro w hSw;obtain ⟨p0,p1,p2,p3,p4,p5,p6,p7⟩:=Blk.cells8 hSw;go_simp;try (with_reducible rfl))
         simp only [Act.put,sT,sZ,sS];refine Yj (rs:=[15]) (by kernel_rfl) (by simp) ?_;refine Yc (o:=⟨_,_,_,_,_,_⟩) rfl (fun K hK=>?_) Yd
         go_simp
         have hges1:(V13.alloc (.cells #[.bool y.h.neg,.slice NA nn nc,.int .i64 y.h.e,.slice (some ⟨T1,0,none⟩) y.tube.length q1,.slice FA y.e.c.length fc,.slice FB y.e.a.length fd,.slice (some ⟨R1,0,none⟩) y.e.r.length fq,.slice VA y.v.length vc] 86)).heap.size<=V13.heap.size+1:=by simp
         have hges2:V13.heap.size+1<=(V13.alloc (.cells #[.bool y.h.neg,.slice NA nn nc,.int .i64 y.h.e,.slice (some ⟨T1,0,none⟩) y.tube.length q1,.slice FA y.e.c.length fc,.slice FB y.e.a.length fd,.slice (some ⟨R1,0,none⟩) y.e.r.length fq,.slice VA y.v.length vc] 86)).heap.size:=by simp
         have HNB:Hid (Blk (V13.alloc (.cells #[.bool y.h.neg,.slice NA nn nc,.int .i64 y.h.e,.slice (some ⟨T1,0,none⟩) y.tube.length q1,.slice FA y.e.c.length fc,.slice FB y.e.a.length fd,.slice (some ⟨R1,0,none⟩) y.e.r.length fq,.slice VA y.v.length vc] 86)) V13.heap.size 86 #[.bool y.h.neg,.slice NA nn nc,.int .i64 y.h.e,.slice (some ⟨T1,0,none⟩) y.tube.length q1,.slice FA y.e.c.length fc,.slice FB y.e.a.length fd,.slice (some ⟨R1,0,none⟩) y.e.r.length fq,.slice VA y.v.length vc]):=Blk.new _ _ _;have hc:=zAE V13 (.cells #[.bool y.h.neg,.slice NA nn nc,.int .i64 y.h.e,.slice (some ⟨T1,0,none⟩) y.tube.length q1,.slice FA y.e.c.length fc,.slice FB y.e.a.length fd,.slice (some ⟨R1,0,none⟩) y.e.r.length fq,.slice VA y.v.length vc] 86)
         try replace HNum:=Zh (HNum.out.next hc)
         try replace HTube:=Zh (HTube.out.next hc)
         try replace HF:=Zh (HF.out.next hc)
         try replace HFR:=Zh (HFR.out.next hc)
         try replace HV:=Zh (HV.out.next hc)
         replace HG1:=Zh (HG1.out.next hc);replace HA1:=Zh (HA1.out.below hc);replace HQ:=Zh (HQ.out.trans (KR.of hc));replace hB:=zAA hB hc;replace HKp:=Zh (HKd.out _ hB);clear hc;generalize (V13.alloc (.cells #[.bool y.h.neg,.slice NA nn nc,.int .i64 y.h.e,.slice (some ⟨T1,0,none⟩) y.tube.length q1,.slice FA y.e.c.length fc,.slice FB y.e.a.length fd,.slice (some ⟨R1,0,none⟩) y.e.r.length fq,.slice VA y.v.length vc] 86))=Y15 at *;refine hK.out _ _ (HKp.out) (fun hH=>?_);clear hK K
        case' gb5=>
         refine Yc (o:=⟨_,_,_,_,_,_⟩) rfl (fun K hK=>?ga6) Yd
         case' ga6=>
          go_simp
          refine (H3.out _ hB).mono ?_;rintro e V10 ⟨FA,fc,FB,fd,R1,fq,rfl,hr0,hr1,hfq1,hfq2,hgot,hrow,hc⟩
          obtain ⟨lo3,hlo3⟩:∃n,n=V7.heap.size:=⟨_,rfl⟩;obtain ⟨hi3,hhi3⟩:∃n,n=V10.heap.size:=⟨_,rfl⟩;have hs3:=hc.size
          try replace HNum:=Zh (HNum.out.next hc)
          try replace HTube:=Zh (HTube.out.next hc)
          try replace HF:=Zh (HF.out.next hc)
          try replace HFR:=Zh (HFR.out.next hc)
          try replace HV:=Zh (HV.out.next hc)
          replace HG1:=Zh (HG1.out.next hc);replace HA1:=Zh (HA1.out.below hc);replace HQ:=Zh (HQ.out.trans (KR.of hc));replace hB:=zAA hB hc;replace HKp:=Zh (HKd.out _ hB);rw [<- hlo3,<- hhi3] at hgot hrow;have HF:=Zh hgot;have HFR:=Zh hrow;clear hc hgot hrow;go_wp2_with fail
          refine hK.out _ _ (HKp.out) (fun hH=>?_);clear hK K;refine Yj (rs:=[1,13]) (by kernel_rfl) (by simp) ?_;refine Yc (o:=⟨_,_,_,_,_,_⟩) rfl (fun K hK=>?ga7) ?gb7
          case' ga7=>
           obtain ⟨r0,r1,r2,r3,r4,r5⟩:=HG1.out.cells6
           go_simp
           clear r0 r1 r2 r3 r4 r5;refine hK.out _ _ (HKp.out) (fun hH=>?_);clear hK K;refine Yj (rs:=[13]) (by kernel_rfl) (by simp) ?_;refine Yc (o:=⟨_,_,_,_,_,_⟩) rfl (fun K hK=>?_) Yd
           go_simp
           refine (H4.out _ hB).mono ?_;rintro e V13 ⟨VA,vc,rfl,hly,hc⟩
           obtain ⟨lo4,hlo4⟩:∃n,n=V10.heap.size:=⟨_,rfl⟩;obtain ⟨hi4,hhi4⟩:∃n,n=V13.heap.size:=⟨_,rfl⟩;have hs4:=hc.size
           try replace HNum:=Zh (HNum.out.next hc)
           try replace HTube:=Zh (HTube.out.next hc)
           try replace HF:=Zh (HF.out.next hc)
           try replace HFR:=Zh (HFR.out.next hc)
           try replace HV:=Zh (HV.out.next hc)
           replace HG1:=Zh (HG1.out.next hc);replace HA1:=Zh (HA1.out.below hc);replace HQ:=Zh (HQ.out.trans (KR.of hc));replace hB:=zAA hB hc;replace HKp:=Zh (HKd.out _ hB);have HV:=Zh (Got.of hly hlo4 hhi4);clear hc hly;go_wp2_with fail
           refine hK.out _ _ (HKp.out) (fun hH=>?_);clear hK K;refine tk (i:=14) (oi:=⟨_,_,_,_,_,_⟩) (v:=?_) rfl (by rfl) ?_ hH ?_;rotate_left
           ·(intro w hSw;obtain ⟨p0,p1,p2,p3,p4,p5,p6,p7⟩:=Blk.cells8 hSw;go_simp;try (with_reducible rfl))
           simp only [Act.put,sT,sZ,sS];refine Yj (rs:=[15]) (by kernel_rfl) (by simp) ?_;refine Yc (o:=⟨_,_,_,_,_,_⟩) rfl (fun K hK=>?_) Yd
           go_simp
           have hges1:(V13.alloc (.cells #[.bool y.h.neg,.slice NA nn nc,.int .i64 y.h.e,.slice (some ⟨T1,0,none⟩) y.tube.length q1,.slice FA y.e.c.length fc,.slice FB y.e.a.length fd,.slice (some ⟨R1,0,none⟩) y.e.r.length fq,.slice VA y.v.length vc] 86)).heap.size<=V13.heap.size+1:=by simp
           have hges2:V13.heap.size+1<=(V13.alloc (.cells #[.bool y.h.neg,.slice NA nn nc,.int .i64 y.h.e,.slice (some ⟨T1,0,none⟩) y.tube.length q1,.slice FA y.e.c.length fc,.slice FB y.e.a.length fd,.slice (some ⟨R1,0,none⟩) y.e.r.length fq,.slice VA y.v.length vc] 86)).heap.size:=by simp
           have HNB:Hid (Blk (V13.alloc (.cells #[.bool y.h.neg,.slice NA nn nc,.int .i64 y.h.e,.slice (some ⟨T1,0,none⟩) y.tube.length q1,.slice FA y.e.c.length fc,.slice FB y.e.a.length fd,.slice (some ⟨R1,0,none⟩) y.e.r.length fq,.slice VA y.v.length vc] 86)) V13.heap.size 86 #[.bool y.h.neg,.slice NA nn nc,.int .i64 y.h.e,.slice (some ⟨T1,0,none⟩) y.tube.length q1,.slice FA y.e.c.length fc,.slice FB y.e.a.length fd,.slice (some ⟨R1,0,none⟩) y.e.r.length fq,.slice VA y.v.length vc]):=Blk.new _ _ _;have hc:=zAE V13 (.cells #[.bool y.h.neg,.slice NA nn nc,.int .i64 y.h.e,.slice (some ⟨T1,0,none⟩) y.tube.length q1,.slice FA y.e.c.length fc,.slice FB y.e.a.length fd,.slice (some ⟨R1,0,none⟩) y.e.r.length fq,.slice VA y.v.length vc] 86)
           try replace HNum:=Zh (HNum.out.next hc)
           try replace HTube:=Zh (HTube.out.next hc)
           try replace HF:=Zh (HF.out.next hc)
           try replace HFR:=Zh (HFR.out.next hc)
           try replace HV:=Zh (HV.out.next hc)
           replace HG1:=Zh (HG1.out.next hc);replace HA1:=Zh (HA1.out.below hc);replace HQ:=Zh (HQ.out.trans (KR.of hc));replace hB:=zAA hB hc;replace HKp:=Zh (HKd.out _ hB);clear hc;generalize (V13.alloc (.cells #[.bool y.h.neg,.slice NA nn nc,.int .i64 y.h.e,.slice (some ⟨T1,0,none⟩) y.tube.length q1,.slice FA y.e.c.length fc,.slice FB y.e.a.length fd,.slice (some ⟨R1,0,none⟩) y.e.r.length fq,.slice VA y.v.length vc] 86))=Y15 at *;refine hK.out _ _ (HKp.out) (fun hH=>?_);clear hK K
          case' gb7=>
           refine Yc (o:=⟨_,_,_,_,_,_⟩) rfl (fun K hK=>?ga8) Yd
           case' ga8=>
            go_simp
            refine (H4.out _ hB).mono ?_;rintro e V13 ⟨VA,vc,rfl,hly,hc⟩
            obtain ⟨lo4,hlo4⟩:∃n,n=V10.heap.size:=⟨_,rfl⟩;obtain ⟨hi4,hhi4⟩:∃n,n=V13.heap.size:=⟨_,rfl⟩;have hs4:=hc.size
            try replace HNum:=Zh (HNum.out.next hc)
            try replace HTube:=Zh (HTube.out.next hc)
            try replace HF:=Zh (HF.out.next hc)
            try replace HFR:=Zh (HFR.out.next hc)
            try replace HV:=Zh (HV.out.next hc)
            replace HG1:=Zh (HG1.out.next hc);replace HA1:=Zh (HA1.out.below hc);replace HQ:=Zh (HQ.out.trans (KR.of hc));replace hB:=zAA hB hc;replace HKp:=Zh (HKd.out _ hB);have HV:=Zh (Got.of hly hlo4 hhi4);clear hc hly;go_wp2_with fail
            refine hK.out _ _ (HKp.out) (fun hH=>?_);clear hK K;refine tk (i:=14) (oi:=⟨_,_,_,_,_,_⟩) (v:=?_) rfl (by rfl) ?_ hH ?_;rotate_left
            ·(intro w hSw;obtain ⟨p0,p1,p2,p3,p4,p5,p6,p7⟩:=Blk.cells8 hSw;go_simp;try (with_reducible rfl))
            simp only [Act.put,sT,sZ,sS];refine Yj (rs:=[1,15]) (by kernel_rfl) (by simp) ?_;refine Yc (o:=⟨_,_,_,_,_,_⟩) rfl (fun K hK=>?ga9) ?gb9
            case' ga9=>
             obtain ⟨r0,r1,r2,r3,r4,r5⟩:=HG1.out.cells6
             go_simp
             clear r0 r1 r2 r3 r4 r5;refine hK.out _ _ (HKp.out) (fun hH=>?_);clear hK K;refine Yj (rs:=[15]) (by kernel_rfl) (by simp) ?_;refine Yc (o:=⟨_,_,_,_,_,_⟩) rfl (fun K hK=>?_) Yd
             go_simp
             have hges1:(V13.alloc (.cells #[.bool y.h.neg,.slice NA nn nc,.int .i64 y.h.e,.slice (some ⟨T1,0,none⟩) y.tube.length q1,.slice FA y.e.c.length fc,.slice FB y.e.a.length fd,.slice (some ⟨R1,0,none⟩) y.e.r.length fq,.slice VA y.v.length vc] 86)).heap.size<=V13.heap.size+1:=by simp
             have hges2:V13.heap.size+1<=(V13.alloc (.cells #[.bool y.h.neg,.slice NA nn nc,.int .i64 y.h.e,.slice (some ⟨T1,0,none⟩) y.tube.length q1,.slice FA y.e.c.length fc,.slice FB y.e.a.length fd,.slice (some ⟨R1,0,none⟩) y.e.r.length fq,.slice VA y.v.length vc] 86)).heap.size:=by simp
             have HNB:Hid (Blk (V13.alloc (.cells #[.bool y.h.neg,.slice NA nn nc,.int .i64 y.h.e,.slice (some ⟨T1,0,none⟩) y.tube.length q1,.slice FA y.e.c.length fc,.slice FB y.e.a.length fd,.slice (some ⟨R1,0,none⟩) y.e.r.length fq,.slice VA y.v.length vc] 86)) V13.heap.size 86 #[.bool y.h.neg,.slice NA nn nc,.int .i64 y.h.e,.slice (some ⟨T1,0,none⟩) y.tube.length q1,.slice FA y.e.c.length fc,.slice FB y.e.a.length fd,.slice (some ⟨R1,0,none⟩) y.e.r.length fq,.slice VA y.v.length vc]):=Blk.new _ _ _;have hc:=zAE V13 (.cells #[.bool y.h.neg,.slice NA nn nc,.int .i64 y.h.e,.slice (some ⟨T1,0,none⟩) y.tube.length q1,.slice FA y.e.c.length fc,.slice FB y.e.a.length fd,.slice (some ⟨R1,0,none⟩) y.e.r.length fq,.slice VA y.v.length vc] 86)
             try replace HNum:=Zh (HNum.out.next hc)
             try replace HTube:=Zh (HTube.out.next hc)
             try replace HF:=Zh (HF.out.next hc)
             try replace HFR:=Zh (HFR.out.next hc)
             try replace HV:=Zh (HV.out.next hc)
             replace HG1:=Zh (HG1.out.next hc);replace HA1:=Zh (HA1.out.below hc);replace HQ:=Zh (HQ.out.trans (KR.of hc));replace hB:=zAA hB hc;replace HKp:=Zh (HKd.out _ hB);clear hc;generalize (V13.alloc (.cells #[.bool y.h.neg,.slice NA nn nc,.int .i64 y.h.e,.slice (some ⟨T1,0,none⟩) y.tube.length q1,.slice FA y.e.c.length fc,.slice FB y.e.a.length fd,.slice (some ⟨R1,0,none⟩) y.e.r.length fq,.slice VA y.v.length vc] 86))=Y15 at *;refine hK.out _ _ (HKp.out) (fun hH=>?_);clear hK K
            case' gb9=>
             refine Yc (o:=⟨_,_,_,_,_,_⟩) rfl (fun K hK=>?ga10) Yd
             case' ga10=>
              go_simp
              have hges1:(V13.alloc (.cells #[.bool y.h.neg,.slice NA nn nc,.int .i64 y.h.e,.slice (some ⟨T1,0,none⟩) y.tube.length q1,.slice FA y.e.c.length fc,.slice FB y.e.a.length fd,.slice (some ⟨R1,0,none⟩) y.e.r.length fq,.slice VA y.v.length vc] 86)).heap.size<=V13.heap.size+1:=by simp
              have hges2:V13.heap.size+1<=(V13.alloc (.cells #[.bool y.h.neg,.slice NA nn nc,.int .i64 y.h.e,.slice (some ⟨T1,0,none⟩) y.tube.length q1,.slice FA y.e.c.length fc,.slice FB y.e.a.length fd,.slice (some ⟨R1,0,none⟩) y.e.r.length fq,.slice VA y.v.length vc] 86)).heap.size:=by simp
              have HNB:Hid (Blk (V13.alloc (.cells #[.bool y.h.neg,.slice NA nn nc,.int .i64 y.h.e,.slice (some ⟨T1,0,none⟩) y.tube.length q1,.slice FA y.e.c.length fc,.slice FB y.e.a.length fd,.slice (some ⟨R1,0,none⟩) y.e.r.length fq,.slice VA y.v.length vc] 86)) V13.heap.size 86 #[.bool y.h.neg,.slice NA nn nc,.int .i64 y.h.e,.slice (some ⟨T1,0,none⟩) y.tube.length q1,.slice FA y.e.c.length fc,.slice FB y.e.a.length fd,.slice (some ⟨R1,0,none⟩) y.e.r.length fq,.slice VA y.v.length vc]):=Blk.new _ _ _;have hc:=zAE V13 (.cells #[.bool y.h.neg,.slice NA nn nc,.int .i64 y.h.e,.slice (some ⟨T1,0,none⟩) y.tube.length q1,.slice FA y.e.c.length fc,.slice FB y.e.a.length fd,.slice (some ⟨R1,0,none⟩) y.e.r.length fq,.slice VA y.v.length vc] 86)
              try replace HNum:=Zh (HNum.out.next hc)
              try replace HTube:=Zh (HTube.out.next hc)
              try replace HF:=Zh (HF.out.next hc)
              try replace HFR:=Zh (HFR.out.next hc)
              try replace HV:=Zh (HV.out.next hc)
              replace HG1:=Zh (HG1.out.next hc);replace HA1:=Zh (HA1.out.below hc);replace HQ:=Zh (HQ.out.trans (KR.of hc));replace hB:=zAA hB hc;replace HKp:=Zh (HKd.out _ hB);clear hc;generalize (V13.alloc (.cells #[.bool y.h.neg,.slice NA nn nc,.int .i64 y.h.e,.slice (some ⟨T1,0,none⟩) y.tube.length q1,.slice FA y.e.c.length fc,.slice FB y.e.a.length fd,.slice (some ⟨R1,0,none⟩) y.e.r.length fq,.slice VA y.v.length vc] 86))=Y15 at *;refine hK.out _ _ (HKp.out) (fun hH=>?_);clear hK K;refine Yj (rs:=[1]) (by kernel_rfl) (by simp) ?_;refine Yc (o:=⟨_,_,_,_,_,_⟩) rfl (fun K hK=>?_) Yd;obtain ⟨r0,r1,r2,r3,r4,r5⟩:=HG1.out.cells6
              go_simp
              clear r0 r1 r2 r3 r4 r5;refine hK.out _ _ (HKp.out) (fun hH=>?_);clear hK K
    all_goals
     refine Yj (rs:=[16]) (by kernel_rfl) (by simp) ?_;refine Yc (o:=⟨_,_,_,_,_,_⟩) rfl (fun K hK=>?_) Yd;have HOW:Hid (∀o,_=some o->o<lo1\/hi4<=o):=fun o ho=>.inl (by have:=HOWN.out o ho;omega)
     have hfl:fs.length<=1000:=by have h1:=HA.out.len;have h2:=congrArg List.length HM2.out;rw [Xe,Yr] at h2;omega
     have hnl:=HV.out.le;have hqs:=HQ.out.size;have hti:=HTube.out.r;have htl:=HTube.out.l;have hfi:=HFR.out.r;have hfl2:=HFR.out.l;refine zPJ (iB:=LkB.B) (iE:=LkB.E) (R:=RB) rfl _ _ 27 rfl 86 8 160 _ zSV rfl (by omega) (by omega) Tryz.underlying27 wc.heap.size _ fs ps rfl HA1.out ⟨V13.heap.size,0,none⟩ 1 [.bool y.h.neg,.slice NA nn nc,.int .i64 y.h.e,.slice (some ⟨T1,0,none⟩) y.tube.length q1,.slice FA y.e.c.length fc,.slice FB y.e.a.length fd,.slice (some ⟨R1,0,none⟩) y.e.r.length fq,.slice VA y.v.length vc] ⟨y,lo1,hi4,T1,R1⟩ rfl rfl ?c1 ?c2 ?c3 ?c4 ?c5 ?c6 ?c7 HOW.out ?c8 ?_
     case c1=>
      intro j u hj;rw [zEM,Blk.cell HNB.out]
      simpa using hj
     case c2=>intro u hu;simp at hu;rcases hu with rfl | rfl | rfl | rfl | rfl | rfl | rfl | rfl <;> rfl
     case c3=>omega
     case c4=>omega
     case c5=>show _<=lo1;omega
     case c6=>show hi4<=_;omega
     case c7=>exact fun p hp=>by have:=zR3 HA.out p hp;show _<=lo1;omega
     case c8=>
      intro W h1 h2;have h1':hi4<=W.heap.size:=h1;have hmv:∀b,lo1<=b->b<hi4->W.heap[b]? = Y15.heap[b]?:=h2;have e1:=(HNum.out.on.move (fun b hb=>hmv b (by omega) (by omega))).sub (E':=hi4) (F':=LkB.F ⟨y,lo1,hi4,T1,R1⟩) (by omega) (fun b hb=>⟨by show lo1<=b;omega,by show b<hi4;omega,by show b≠T1;omega,by show b≠R1;omega⟩);have e2:=(HTube.out.row.move (hmv T1 (by omega) (by omega)) (fun b hb=>hmv b (by omega) (by omega))).sub (E':=hi4) (F':=LkB.F ⟨y,lo1,hi4,T1,R1⟩) (by omega) (fun b hb=>⟨by show lo1<=b;omega,by show b<hi4;omega,by show b≠T1;omega,by show b≠R1;omega⟩);have e3:=(HF.out.on.move (fun b hb=>hmv b (by omega) (by omega))).sub (E':=hi4) (F':=LkB.F ⟨y,lo1,hi4,T1,R1⟩) (by omega) (fun b hb=>⟨by show lo1<=b;omega,by show b<hi4;omega,by show b≠T1;omega,by show b≠R1;omega⟩);have e4:=(HFR.out.row.move (hmv R1 (by omega) (by omega)) (fun b hb=>hmv b (by omega) (by omega))).sub (E':=hi4) (F':=LkB.F ⟨y,lo1,hi4,T1,R1⟩) (by omega) (fun b hb=>⟨by show lo1<=b;omega,by show b<hi4;omega,by show b≠T1;omega,by show b≠R1;omega⟩);have e5:=(HV.out.on.move (fun b hb=>hmv b (by omega) (by omega))).sub (E':=hi4) (F':=LkB.F ⟨y,lo1,hi4,T1,R1⟩) (by omega) (fun b hb=>⟨by show lo1<=b;omega,by show b<hi4;omega,by show b≠T1;omega,by show b≠R1;omega⟩);exact ⟨rfl,by show lo1<=T1;omega,by show T1<hi4;omega,by show lo1<=R1;omega,by show R1<hi4;omega,⟨by show T1≠R1;omega,fun h=>h.2.2.1 rfl,fun h=>h.2.2.2 rfl,NA,nn,nc,_,q1,FA,_,fc,FB,_,fd,_,fq,VA,_,vc,rfl,fun V k1 k2=>⟨e1 V k1 k2,(e3 V k1 k2).1,(e3 V k1 k2).2,e5 V k1 k2⟩,⟨rfl,hq1,hq2⟩,⟨rfl,hfq1,hfq2⟩,e2,e4⟩⟩
     intro v' w3 hacc hb3 hg3;have HA3:=Zh hacc;have hs5:=hb3.size;have HKe:=Zh ((hg3.block wr.heap.size (by omega) (fun e=>by have:=HOWN.out _ e.symm;omega)).trans HKp.out);have HG3:=Zh ((hg3.block g (by omega) (fun e=>by have:=(HA1.out.own.lt _ e.symm).1;omega)).trans HG1.out);have HQ3:=Zh (HQ.out.thenB hb3);clear HKp;have HKp:=HKe;clear hacc hb3 hg3 HKe;refine hK.out _ _ (HKp.out) (fun hH=>?_);clear hK K;refine tk (i:=17) (oi:=⟨_,_,_,_,_,_⟩) (v:=?_) rfl (by rfl) ?_ hH ?_;rotate_left
     ·(intro w hSw;obtain ⟨p0,p1,p2,p3,p4,p5,p6,p7⟩:=Blk.cells8 hSw;go_simp;try (with_reducible rfl))
     simp only [Act.put,sT,sZ,sS];refine Yj (rs:=[18]) (by kernel_rfl) (by simp) ?_;refine Yc (o:=⟨_,_,_,_,_,_⟩) rfl (fun K hK=>?_) Yd;obtain ⟨vA,vn,vlc,rfl⟩:=zED HA3.out.own;have hG3:Blk w3 g _ _:=HG3.out;obtain ⟨r0,r1,r2,r3,r4,r5⟩:=hG3.cells6;have f5:=hG3.frozen 5
     go_simp
     clear r0 r1 r2 r3 r4 r5 f5;have HG4:Hid (Blk (w3.setCell ⟨g,5,none⟩ (.slice vA vn vlc)) g 29 #[.int .i64 x.prec,.int .i64 x.order,.slice A x.start.c.length c,.slice B x.start.a.length d,.slice C x.start.r.length q,.slice vA vn vlc]):=hG3.set_ 5 (.slice vA vn vlc);have HA4:=Zh (HA3.out.keep (w':=w3.setCell ⟨g,5,none⟩ (.slice vA vn vlc)) (by simp [World.setCell]) (fun b hb _=>Yl _ _ _ _ (by show b≠g;omega)));have HQ4:=Zh (HQ3.out.trans (KR.set 5 (.slice vA vn vlc)));have HKe:=Zh ((Yl w3 ⟨g,5,none⟩ (.slice vA vn vlc) wr.heap.size (by show wr.heap.size≠g;omega)).trans HKp.out);clear HKp hG3;have HKp:=HKe;clear HKe;generalize w3.setCell ⟨g,5,none⟩ (.slice vA vn vlc)=w4 at *;refine hK.out _ _ (HKp.out) (fun hH=>?_);clear hK K;refine wpAnyH_done (by kernel_rfl) ?_ _;go_wp2_with fail
     go_roundw
     case rel=>exact ⟨k+1,_,_,_,by omega,by go_num,HA4,by unfold Hid;rw [HT.out,List.map_append,HM2.out];rfl,HG4,HQ4⟩
     case measure=>simp [intOf];omega
   ·obtain rfl:k=xln:=by omega
    have hmn:x.links.take k=x.links:=Xd (by rw [HL4.out];exact Ya _);rw [hmn] at HM2;obtain ⟨LA,lc,rfl,-,-⟩:=zRZ HA.out (Ya _);have hkr:=HK.out.blk HR0.out (by omega);obtain ⟨r0,r1,r2,r3,r4,r5⟩:=HG.out.cells6;obtain ⟨y0,y1,y2,y3,y4,y5⟩:=hkr.cells6;have f0:=hkr.frozen 0;have f1:=hkr.frozen 1;have f2:=hkr.frozen 2;have f3:=hkr.frozen 3;have f4:=hkr.frozen 4;have f5:=hkr.frozen 5;have HRR:=Zh hkr;have hwr:=HK.out.size;clear hkr;go_wp2_with fail
    refine Yn (zj1 Tryz.results43 rfl (HRR.out.set6 _ _ _ _ _ _)) rfl ?_;have hm:=HM.out;have hfin:∀b,w.heap.size+2<=b->((((((wr.setCell ⟨w.heap.size+1,0,none⟩ (.int .i64 x.prec)).setCell ⟨w.heap.size+1,1,none⟩ (.int .i64 x.order)).setCell ⟨w.heap.size+1,2,none⟩ (.slice A x.start.c.length c)).setCell ⟨w.heap.size+1,3,none⟩ (.slice B x.start.a.length d)).setCell ⟨w.heap.size+1,4,none⟩ (.slice C x.start.r.length q)).setCell ⟨w.heap.size+1,5,none⟩ (.slice LA ps.length lc)).heap[b]? = wr.heap[b]?:=fun b hb=>zBy (by omega) _ _ _ _ _ _
    have hfs:((((((wr.setCell ⟨w.heap.size+1,0,none⟩ (.int .i64 x.prec)).setCell ⟨w.heap.size+1,1,none⟩ (.int .i64 x.order)).setCell ⟨w.heap.size+1,2,none⟩ (.slice A x.start.c.length c)).setCell ⟨w.heap.size+1,3,none⟩ (.slice B x.start.a.length d)).setCell ⟨w.heap.size+1,4,none⟩ (.slice C x.start.r.length q)).setCell ⟨w.heap.size+1,5,none⟩ (.slice LA ps.length lc)).heap.size=wr.heap.size:=zBz _ _ _ _ _ _;have HFIN:=Zh hfin;have hbe:=zAS (HBW.out.trans (HK.out.below (B:=w.heap.size) (by omega) (by omega))) (show w.heap.size<=w.heap.size+1 by omega) (.int .i64 x.prec) (.int .i64 x.order) (.slice A x.start.c.length c) (.slice B x.start.a.length d) (.slice C x.start.r.length q) (.slice LA ps.length lc);clear hfin;generalize ((((((wr.setCell ⟨w.heap.size+1,0,none⟩ (.int .i64 x.prec)).setCell ⟨w.heap.size+1,1,none⟩ (.int .i64 x.order)).setCell ⟨w.heap.size+1,2,none⟩ (.slice A x.start.c.length c)).setCell ⟨w.heap.size+1,3,none⟩ (.slice B x.start.a.length d)).setCell ⟨w.heap.size+1,4,none⟩ (.slice C x.start.r.length q)).setCell ⟨w.heap.size+1,5,none⟩ (.slice LA ps.length lc))=WE at *;obtain ⟨LA',lc',e1,hlks,hold⟩:=zRZ (lo:=w.heap.size+2) (HA.out.keep (w':=WE) (by omega) (fun b hb _=>HFIN.out b (by omega))) (by omega);injection e1 with e1 _ e2
    subst e1 e2;rw [HM2.out] at hlks;have hlt:=hlks.lt;refine ⟨_,_,_,_,rfl,rfl,⟨⟨A,_,c,B,_,d,C,_,q,LA,_,lc,rfl,?_,hlks⟩⟩,fun b hb=>?_,fun b hb=>⟨Yt.2 (.inl (List.mem_range.2 (by omega))),hold b (by omega)⟩,hbe⟩
    ·refine (hm.on.move (fun b hb=>(HFIN.out b (by omega)).trans (HK.out.block b hb.2.1 hb.2.2))).sub (by omega) (fun b hb=>⟨by omega,fun h=>?_⟩)
     rcases Yt.1 h with h | h
     ·have:=List.mem_range.1 h
      omega
     ·exact hold b hb.2.1 h
    ·rcases Yt.1 hb with h | h
     ·have:=List.mem_range.1 h
      omega
     ·exact hlt b h
def hgD (d:Dy):Bool:=decide (12<d.l.length)
def hgN (l:List Dy):Bool:=decide (8<l.length) || l.any hgD
def hgI (x:Iv):Bool:=hgD x.lo || hgD x.hi
def hgB (l:List Iv):Bool:=decide (8<l.length) || l.any hgI
def hgM (m:List (List Dy)):Bool:=decide (8<m.length) || m.any hgN
def hgF (f:Fr):Bool:=hgN f.c || hgM f.a || hgB f.r
def hgL (x:Lk):Bool:=hgD x.h || hgB x.tube || hgF x.e || hgM x.v
def hgC (x:Ct):Bool:=decide (20<x.links.length) || hgF x.start || x.links.any hgL
structure zJL (W:World) (g4 g5 g6 g7:Nat):Prop where
 k4:Blk W g4 90 #[.func (.func 32) #[] #[]]
 k5:Blk W g5 93 #[.func (.func 35) #[] #[]]
 k6:Blk W g6 95 #[.func (.func 38) #[] #[.pointer (some ⟨g4,0,none⟩)]]
 k7:Blk W g7 96 #[.func (.func 40) #[] #[.pointer (some ⟨g4,0,none⟩),.pointer (some ⟨g6,0,none⟩),.pointer (some ⟨g5,0,none⟩)]]
theorem zJL.next {W W':World}{g4 g5 g6 g7:Nat}(h:zJL W g4 g5 g6 g7) (hb:Below W.heap.size W W'):zJL W' g4 g5 g6 g7:=⟨h.k4.next hb,h.k5.next hb,h.k6.next hb,h.k7.next hb⟩
theorem zMs (vs:List Value) (d:Dy) (w:World) (h:RD w vs d):Calls Tryz.prog 34 #[.agg vs.toArray] w (zBW (hgD d) w):=by
 obtain ⟨A,n,c,rfl,hs⟩:=h;have HV:Hid (hgD d=decide (12<n)):=by unfold Hid hgD;rw [hs.len]
 have m1:=hs.cap;have m2:=hs.max;clear hs;by_cases h:12<n
 ·rw [Yf h] at HV
  go_enter Tryz.func34,Tryz.ntmps34
  go_wp2
  go_ret;exact ⟨by rw [HV.out];simp;omega,zAE _ _⟩
 ·rw [Ye h] at HV
  go_enter Tryz.func34,Tryz.ntmps34
  go_wp2
  go_ret;exact ⟨by rw [HV.out];simp;omega,zAE _ _⟩
theorem zMt (vs:List Value) (x:Iv) (w:World) (h:RI w vs x):Calls Tryz.prog 37 #[.agg vs.toArray] w (zBW (hgI x) w):=by
 obtain ⟨xA,xs,xc,xB,xm,xd,rfl,hx1,hx2⟩:=h;have HV:Hid (hgI x=(decide (12<xs) || decide (12<xm))):=by unfold Hid hgI hgD;rw [hx1.len,hx2.len]
 have m1:=hx1.cap;have m2:=hx1.max;have m3:=hx2.cap;have m4:=hx2.max;clear hx1 hx2;by_cases h:12<xs
 ·rw [Yf h] at HV
  go_enter Tryz.func37,Tryz.ntmps37
  go_wp2
  go_ret;exact ⟨by rw [HV.out];first | rfl | simp;omega,zAE _ _⟩
 rw [Ye h] at HV;have hd:decide (12<(xs:Int))=false:=Ye (by omega);by_cases h':12<xm
 ·rw [Yf h'] at HV
  go_enter Tryz.func37,Tryz.ntmps37
  go_wp2
  go_ret;exact ⟨by rw [HV.out];first | rfl | simp;omega,zAE _ _⟩
 ·rw [Ye h'] at HV
  go_enter Tryz.func37,Tryz.ntmps37
  go_wp2
  go_ret;exact ⟨by rw [HV.out];first | rfl | simp;omega,zAE _ _⟩
theorem zJl (A:Option Addr) (n c:Nat) (l:List Dy) (w:World) (h:Sl 3 RD w A n c l):Calls Tryz.prog 32 #[.slice A n c] w (zBW (hgN l) w):=by
 have hmf:∀ (fn:Fn) (first cap:Array Value) (w:World),(Instr.makeFunc fn first cap).run Tryz.prog w=.ok (.func fn first cap) w:=fun _ _ _ _=>rfl
 obtain ⟨r,hr⟩:∃r,l.any hgD=r:=⟨_,rfl⟩;have HV:Hid (hgN l=(decide (8<n) || r)):=by unfold Hid hgN;rw [h.len,hr]
 have HC:=Zh (zCA hgD 34 #[] A n c l w h (zCQ Tryz.func34 (by kernel_rfl) rfl) (fun W us d _ _ hr=>by rw [Array.append_empty];exact zMs us d W hr));rw [hr] at HC;have m1:=h.cap;have m2:=h.max;clear h hr;by_cases hn:8<n
 ·rw [Yf hn] at HV
  go_enter Tryz.func32,Tryz.ntmps32
  go_wp2_with fail
  go_ret;exact ⟨by rw [HV.out];first | rfl | simp;omega,Yp _ _⟩
 ·rw [Ye hn] at HV
  have hd:decide (8<(n:Int))=false:=Ye (by omega);go_enter Tryz.func32,Tryz.ntmps32
  go_wp2_with fail
  refine HC.out.mono ?_;rintro e w1 ⟨rfl,hb0⟩
  go_wp2_with fail
  go_ret;exact ⟨by rw [HV.out];first | rfl | simp,hb0⟩
theorem zJm (A:Option Addr) (n c:Nat) (l:List Iv) (w:World) (h:Sl 7 RI w A n c l):Calls Tryz.prog 35 #[.slice A n c] w (zBW (hgB l) w):=by
 have hmf:∀ (fn:Fn) (first cap:Array Value) (w:World),(Instr.makeFunc fn first cap).run Tryz.prog w=.ok (.func fn first cap) w:=fun _ _ _ _=>rfl
 obtain ⟨r,hr⟩:∃r,l.any hgI=r:=⟨_,rfl⟩;have HV:Hid (hgB l=(decide (8<n) || r)):=by unfold Hid hgB;rw [h.len,hr]
 have HC:=Zh (zCv hgI 37 #[] A n c l w h (zCQ Tryz.func37 (by kernel_rfl) rfl) (fun W us d _ _ hr=>by rw [Array.append_empty];exact zMt us d W hr));rw [hr] at HC;have m1:=h.cap;have m2:=h.max;clear h hr;by_cases hn:8<n
 ·rw [Yf hn] at HV
  go_enter Tryz.func35,Tryz.ntmps35
  go_wp2_with fail
  go_ret;exact ⟨by rw [HV.out];first | rfl | simp;omega,Yp _ _⟩
 ·rw [Ye hn] at HV
  have hd:decide (8<(n:Int))=false:=Ye (by omega);go_enter Tryz.func35,Tryz.ntmps35
  go_wp2_with fail
  refine HC.out.mono ?_;rintro e w1 ⟨rfl,hb0⟩
  go_wp2_with fail
  go_ret;exact ⟨by rw [HV.out];first | rfl | simp,hb0⟩
theorem zSQ (vs:List Value) (l:List Dy) (w:World) (h:RM w vs l):Calls Tryz.prog 32 (#[(vs[0]?).getD undef]++#[]) w (zBW (hgN l) w):=by
 obtain ⟨A,n,c,rfl,hs⟩:=h;rw [Array.append_empty];exact zJl A n c l w hs
theorem zJn (g4:Nat) (A:Option Addr) (n c:Nat) (l:List (List Dy)) (w:World) (h:Sl 1 RM w A n c l) (k4:Blk w g4 90 #[.func (.func 32) #[] #[]]):Calls Tryz.prog 38 #[.slice A n c,.pointer (some ⟨g4,0,none⟩)] w (zBW (hgM l) w):=by
 have hmf:∀ (fn:Fn) (first cap:Array Value) (w:World),(Instr.makeFunc fn first cap).run Tryz.prog w=.ok (.func fn first cap) w:=fun _ _ _ _=>rfl
 obtain ⟨r,hr⟩:∃r,l.any hgN=r:=⟨_,rfl⟩;have HV:Hid (hgM l=(decide (8<n) || r)):=by unfold Hid hgM;rw [h.len,hr]
 have HC:=Zh (zCw hgN 32 #[] A n c l w h (zCQ Tryz.func32 (by kernel_rfl) rfl) (fun W us d hb _ hr=>zSQ us d W hr));rw [hr] at HC;have m1:=h.cap;have m2:=h.max;have q4:=k4.cells1;clear h hr;by_cases hn:8<n
 ·rw [Yf hn] at HV
  go_enter Tryz.func38,Tryz.ntmps38
  go_wp2_with fail
  go_ret;exact ⟨by rw [HV.out];first | rfl | simp;omega,Yp _ _⟩
 ·rw [Ye hn] at HV
  have hd:decide (8<(n:Int))=false:=Ye (by omega);go_enter Tryz.func38,Tryz.ntmps38
  go_wp2_with fail
  refine HC.out.mono ?_;rintro e w1 ⟨rfl,hb0⟩
  go_wp2_with fail
  go_ret;exact ⟨by rw [HV.out];first | rfl | simp,hb0⟩
theorem zJo (g4 g5 g6 g7:Nat) (vs:List Value) (x:Fr) (w:World) (h:RF w vs x) (E:zJL w g4 g5 g6 g7):Calls Tryz.prog 40 #[.agg vs.toArray,.pointer (some ⟨g4,0,none⟩),.pointer (some ⟨g6,0,none⟩),.pointer (some ⟨g5,0,none⟩)] w (zBW (hgF x) w):=by
 obtain ⟨xA,xn,xc,xB,xm,xd,xC,xp,xq,rfl,hx1,hx2,hx3⟩:=h;have HV:Hid (hgF x=(hgN x.c || hgM x.a || hgB x.r)):=rfl;have H1:=Zh (fun W (hb:Below w.heap.size w W)=>zJl xA xn xc x.c W (hx1.next zAQ hb));have H2:=Zh (fun W (hb:Below w.heap.size w W)=>zJn g4 xB xm xd x.a W (hx2.next zAh hb) (E.next hb).k4);have H3:=Zh (fun W (hb:Below w.heap.size w W)=>zJm xC xp xq x.r W (hx3.next zAX hb));clear hx1 hx2 hx3;generalize hgN x.c=b1 at *;generalize hgM x.a=b2 at *;generalize hgB x.r=b3 at *;have hb0:=zAE w (.cells #[.slice xA xn xc,.slice xB xm xd,.slice xC xp xq] 26);have ka:=Blk.new w 26 #[.slice xA xn xc,.slice xB xm xd,.slice xC xp xq];have k4:=E.k4.next hb0;have k5:=E.k5.next hb0;have k6:=E.k6.next hb0;clear E;have p4:=k4.cells1;have p5:=k5.cells1;have p6:=k6.cells1;go_enter Tryz.func40,Tryz.ntmps40
 go_wp2_with fail
 clear p4 p5 p6;generalize w.alloc (.cells #[.slice xA xn xc,.slice xB xm xd,.slice xC xp xq] 26)=W0 at *;refine (H1.out _ hb0).mono ?_;rintro e w1 ⟨rfl,hb1x⟩
 replace hb0:=zAA hb0 hb1x;replace ka:=ka.next hb1x;replace k4:=k4.next hb1x;replace k5:=k5.next hb1x;replace k6:=k6.next hb1x;clear hb1x;cases hv1:b1;rotate_left
 ·rw [hv1] at HV
  clear hv1;go_wp2_with fail
  go_ret;exact ⟨by rw [HV.out];rfl,hb0⟩
 rw [hv1] at HV;clear hv1;obtain ⟨kaq0,kaq1,kaq2⟩:=ka.cells3;have k4q0:=k4.cells1;have k5q0:=k5.cells1;have k6q0:=k6.cells1;go_wp2_with fail
 refine (H2.out _ hb0).mono ?_;rintro e w2 ⟨rfl,hb2x⟩
 clear kaq0 kaq1 kaq2 k4q0 k5q0 k6q0;replace hb0:=zAA hb0 hb2x;replace ka:=ka.next hb2x;replace k4:=k4.next hb2x;replace k5:=k5.next hb2x;replace k6:=k6.next hb2x;clear hb2x;cases hv1:b2;rotate_left
 ·rw [hv1] at HV
  clear hv1;go_wp2_with fail
  go_ret;exact ⟨by rw [HV.out];rfl,hb0⟩
 rw [hv1] at HV;clear hv1;obtain ⟨kaq0,kaq1,kaq2⟩:=ka.cells3;have k4q0:=k4.cells1;have k5q0:=k5.cells1;have k6q0:=k6.cells1;go_wp2_with fail
 refine (H3.out _ hb0).mono ?_;rintro e w3 ⟨rfl,hb3x⟩
 clear kaq0 kaq1 kaq2 k4q0 k5q0 k6q0;replace hb0:=zAA hb0 hb3x;replace ka:=ka.next hb3x;replace k4:=k4.next hb3x;replace k5:=k5.next hb3x;replace k6:=k6.next hb3x;clear hb3x;go_wp2_with fail
 go_ret;exact ⟨by rw [HV.out];rfl,hb0⟩
theorem zN9 (g4 g5 g6 g7:Nat) (vs:List Value) (x:Lk) (w:World) (h:RL w vs x) (E:zJL w g4 g5 g6 g7):Calls Tryz.prog 42 (#[.agg vs.toArray]++#[.pointer (some ⟨g5,0,none⟩),.pointer (some ⟨g7,0,none⟩),.pointer (some ⟨g6,0,none⟩)]) w (zBW (hgL x) w):=by
 obtain ⟨xH,xhs,xhc,xT,xtn,xtc,xA,xn,xc,xB,xm,xd,xC,xp,xq,xV,xvn,xvc,rfl,hx1,hx2,hx3,hx4,hx5,hx6⟩:=h;obtain ⟨⟨xhn,xhl,xhe⟩,xtu,xfe,xv⟩:=x;dsimp only at hx1 hx2 hx3 hx4 hx5 hx6 ⊢;have e:(#[.agg #[.bool xhn,.slice xH xhs xhc,.int .i64 xhe,.slice xT xtn xtc,.slice xA xn xc,.slice xB xm xd,.slice xC xp xq,.slice xV xvn xvc]]++#[.pointer (some ⟨g5,0,none⟩),.pointer (some ⟨g7,0,none⟩),.pointer (some ⟨g6,0,none⟩)]:Array Value)=#[.agg #[.bool xhn,.slice xH xhs xhc,.int .i64 xhe,.slice xT xtn xtc,.slice xA xn xc,.slice xB xm xd,.slice xC xp xq,.slice xV xvn xvc],.pointer (some ⟨g5,0,none⟩),.pointer (some ⟨g7,0,none⟩),.pointer (some ⟨g6,0,none⟩)]:=by simp
 rw [e];clear e;have HV:Hid (hgL ⟨⟨xhn,xhl,xhe⟩,xtu,xfe,xv⟩=(decide (12<xhs) || hgB xtu || hgF xfe || hgM xv)):=by unfold Hid hgL hgD;dsimp only;rw [hx1.len]
 have rx2:RF w [.slice xA xn xc,.slice xB xm xd,.slice xC xp xq] xfe:=⟨xA,xn,xc,xB,xm,xd,xC,xp,xq,rfl,hx3,hx4,hx5⟩;have m1:=hx1.cap;have m2:=hx1.max;have H2:=Zh (fun W (hb:Below w.heap.size w W)=>zJm xT xtn xtc xtu W (hx2.next zAX hb));have H3:=Zh (fun W (hb:Below w.heap.size w W)=>zJo g4 g5 g6 g7 _ xfe W (zBs w W _ _ rx2 hb) (E.next hb));have H4:=Zh (fun W (hb:Below w.heap.size w W)=>zJn g4 xV xvn xvc xv W (hx6.next zAh hb) (E.next hb).k4);clear hx1 hx2 hx3 hx4 hx5 hx6 rx2;generalize hgB xtu=b2 at *;generalize hgF xfe=b3 at *;generalize hgM xv=b4 at *;have hb0:=zAE w (.cells #[.bool xhn,.slice xH xhs xhc,.int .i64 xhe,.slice xT xtn xtc,.slice xA xn xc,.slice xB xm xd,.slice xC xp xq,.slice xV xvn xvc] 86);have ka:=Blk.new w 86 #[.bool xhn,.slice xH xhs xhc,.int .i64 xhe,.slice xT xtn xtc,.slice xA xn xc,.slice xB xm xd,.slice xC xp xq,.slice xV xvn xvc];have k5:=E.k5.next hb0;have k6:=E.k6.next hb0;have k7:=E.k7.next hb0;clear E;have p5:=k5.cells1;have p6:=k6.cells1;have p7:=k7.cells1;by_cases hn:12<xhs
 ·rw [Yf hn] at HV
  clear ka H2 H3 H4;go_enter Tryz.func42,Tryz.ntmps42
  go_wp2_with fail
  go_ret;exact ⟨by rw [HV.out];first | rfl | simp;omega,hb0⟩
 rw [Ye hn] at HV;have hd:decide (12<(xhs:Int))=false:=Ye (by omega);go_enter Tryz.func42,Tryz.ntmps42
 go_wp2_with fail
 clear p5 p6 p7;generalize w.alloc (.cells #[.bool xhn,.slice xH xhs xhc,.int .i64 xhe,.slice xT xtn xtc,.slice xA xn xc,.slice xB xm xd,.slice xC xp xq,.slice xV xvn xvc] 86)=W0 at *;refine (H2.out _ hb0).mono ?_;rintro e w1 ⟨rfl,hb1x⟩
 replace hb0:=zAA hb0 hb1x;replace ka:=ka.next hb1x;replace k5:=k5.next hb1x;replace k6:=k6.next hb1x;replace k7:=k7.next hb1x;clear hb1x;cases hv1:b2;rotate_left
 ·rw [hv1] at HV
  clear hv1;go_wp2_with fail
  go_ret;exact ⟨by rw [HV.out];rfl,hb0⟩
 rw [hv1] at HV;clear hv1;obtain ⟨kaq0,kaq1,kaq2,kaq3,kaq4,kaq5,kaq6,kaq7⟩:=ka.cells8;have k5q0:=k5.cells1;have k6q0:=k6.cells1;have k7q0:=k7.cells1;go_wp2_with fail
 refine (H3.out _ hb0).mono ?_;rintro e w2 ⟨rfl,hb2x⟩
 clear kaq0 kaq1 kaq2 kaq3 kaq4 kaq5 kaq6 kaq7 k5q0 k6q0 k7q0;replace hb0:=zAA hb0 hb2x;replace ka:=ka.next hb2x;replace k5:=k5.next hb2x;replace k6:=k6.next hb2x;replace k7:=k7.next hb2x;clear hb2x;cases hv1:b3;rotate_left
 ·rw [hv1] at HV
  clear hv1;go_wp2_with fail
  go_ret;exact ⟨by rw [HV.out];rfl,hb0⟩
 rw [hv1] at HV;clear hv1;obtain ⟨kaq0,kaq1,kaq2,kaq3,kaq4,kaq5,kaq6,kaq7⟩:=ka.cells8;have k5q0:=k5.cells1;have k6q0:=k6.cells1;have k7q0:=k7.cells1;go_wp2_with fail
 refine (H4.out _ hb0).mono ?_;rintro e w3 ⟨rfl,hb3x⟩
 clear kaq0 kaq1 kaq2 kaq3 kaq4 kaq5 kaq6 kaq7 k5q0 k6q0 k7q0;replace hb0:=zAA hb0 hb3x;replace ka:=ka.next hb3x;replace k5:=k5.next hb3x;replace k6:=k6.next hb3x;replace k7:=k7.next hb3x;clear hb3x;go_wp2_with fail
 go_ret;exact ⟨by rw [HV.out];rfl,hb0⟩
theorem zLr (vs:List Value) (x:Ct) (w:World) (h:RC w vs x):Calls Tryz.prog 8 #[.agg vs.toArray] w (zBW (hgC x) w):=by
 have hmf:∀ (fn:Fn) (first cap:Array Value) (w:World),(Instr.makeFunc fn first cap).run Tryz.prog w=.ok (.func fn first cap) w:=fun _ _ _ _=>rfl
 obtain ⟨xA,xn,xc,xB,xm,xd,xC,xp,xq,xL,xln,xlc,rfl,hx1,hx2,hx3,hx4⟩:=h;obtain ⟨xpr,xod,xst,xls⟩:=x;dsimp only at hx1 hx2 hx3 hx4 ⊢;have HV:Hid (hgC ⟨xpr,xod,xst,xls⟩=(decide (20<xln) || hgF xst || xls.any hgL)):=by unfold Hid hgC;dsimp only;rw [hx4.len]
 have rx2:RF w [.slice xA xn xc,.slice xB xm xd,.slice xC xp xq] xst:=⟨xA,xn,xc,xB,xm,xd,xC,xp,xq,rfl,hx1,hx2,hx3⟩;have H1:=Zh (fun W (hb:Below w.heap.size w W) (g4 g5 g6 g7:Nat) (E:zJL W g4 g5 g6 g7)=>zJo g4 g5 g6 g7 _ xst W (zBs w W _ _ rx2 hb) E);have H2:=Zh (fun W (hb:Below w.heap.size w W) (g4 g5 g6 g7:Nat) (E:zJL W g4 g5 g6 g7)=>zEP hgL 42 #[.pointer (some ⟨g5,0,none⟩),.pointer (some ⟨g7,0,none⟩),.pointer (some ⟨g6,0,none⟩)] xL xln xlc xls W (hx4.next zBt hb) (zCQ Tryz.func42 (by kernel_rfl) rfl) (fun V us y hb' _ hr=>zN9 g4 g5 g6 g7 us y V hr (E.next hb')));have m1:=hx4.cap;have m2:=hx4.max;clear hx1 hx2 hx3 hx4 rx2;generalize hgF xst=b1 at *;generalize xls.any hgL=b2 at *;have HE:∃V,V=(((((w.alloc (.cells #[.int .i64 xpr,.int .i64 xod,.slice xA xn xc,.slice xB xm xd,.slice xC xp xq,.slice xL xln xlc] 29)).alloc (.cells #[.func (.func 32) #[] #[]] 90)).alloc (.cells #[.func (.func 35) #[] #[]] 93)).alloc (.cells #[.func (.func 38) #[] #[.pointer (some ⟨w.heap.size+1,0,none⟩)]] 95)).alloc (.cells #[.func (.func 40) #[] #[.pointer (some ⟨w.heap.size+1,0,none⟩),.pointer (some ⟨w.heap.size+1+1+1,0,none⟩),.pointer (some ⟨w.heap.size+1+1,0,none⟩)]] 96))/\Below w.heap.size w V/\Blk V w.heap.size 29 #[.int .i64 xpr,.int .i64 xod,.slice xA xn xc,.slice xB xm xd,.slice xC xp xq,.slice xL xln xlc]/\zJL V (w.heap.size+1) (w.heap.size+1+1) (w.heap.size+1+1+1) (w.heap.size+1+1+1+1):=by
  obtain ⟨V1,e1⟩:∃V,V=w.alloc (.cells #[.int .i64 xpr,.int .i64 xod,.slice xA xn xc,.slice xB xm xd,.slice xC xp xq,.slice xL xln xlc] 29):=⟨_,rfl⟩;have b1:Below w.heap.size w V1:=by rw [e1];exact zAE _ _
  have s1:V1.heap.size=w.heap.size+1:=by rw [e1];simp
  have k1:Blk V1 w.heap.size 29 #[.int .i64 xpr,.int .i64 xod,.slice xA xn xc,.slice xB xm xd,.slice xC xp xq,.slice xL xln xlc]:=by rw [e1];exact Blk.new _ _ _
  obtain ⟨V2,e2⟩:∃V,V=V1.alloc (.cells #[.func (.func 32) #[] #[]] 90):=⟨_,rfl⟩;have b2:Below V1.heap.size V1 V2:=by rw [e2];exact zAE _ _
  have s2:V2.heap.size=V1.heap.size+1:=by rw [e2];simp
  have k2:Blk V2 V1.heap.size 90 #[.func (.func 32) #[] #[]]:=by rw [e2];exact Blk.new _ _ _
  obtain ⟨V3,e3⟩:∃V,V=V2.alloc (.cells #[.func (.func 35) #[] #[]] 93):=⟨_,rfl⟩;have b3:Below V2.heap.size V2 V3:=by rw [e3];exact zAE _ _
  have s3:V3.heap.size=V2.heap.size+1:=by rw [e3];simp
  have k3:Blk V3 V2.heap.size 93 #[.func (.func 35) #[] #[]]:=by rw [e3];exact Blk.new _ _ _
  obtain ⟨V4,e4⟩:∃V,V=V3.alloc (.cells #[.func (.func 38) #[] #[.pointer (some ⟨w.heap.size+1,0,none⟩)]] 95):=⟨_,rfl⟩;have b4:Below V3.heap.size V3 V4:=by rw [e4];exact zAE _ _
  have s4:V4.heap.size=V3.heap.size+1:=by rw [e4];simp
  have k4:Blk V4 V3.heap.size 95 #[.func (.func 38) #[] #[.pointer (some ⟨w.heap.size+1,0,none⟩)]]:=by rw [e4];exact Blk.new _ _ _
  obtain ⟨V5,e5⟩:∃V,V=V4.alloc (.cells #[.func (.func 40) #[] #[.pointer (some ⟨w.heap.size+1,0,none⟩),.pointer (some ⟨w.heap.size+1+1+1,0,none⟩),.pointer (some ⟨w.heap.size+1+1,0,none⟩)]] 96):=⟨_,rfl⟩;have b5:Below V4.heap.size V4 V5:=by rw [e5];exact zAE _ _
  have s5:V5.heap.size=V4.heap.size+1:=by rw [e5];simp
  have k5:Blk V5 V4.heap.size 96 #[.func (.func 40) #[] #[.pointer (some ⟨w.heap.size+1,0,none⟩),.pointer (some ⟨w.heap.size+1+1+1,0,none⟩),.pointer (some ⟨w.heap.size+1+1,0,none⟩)]]:=by rw [e5];exact Blk.new _ _ _
  have z2:V1.heap.size=w.heap.size+1:=by omega
  rw [z2] at k2;have z3:V2.heap.size=w.heap.size+1+1:=by omega
  rw [z3] at k3;have z4:V3.heap.size=w.heap.size+1+1+1:=by omega
  rw [z4] at k4;have z5:V4.heap.size=w.heap.size+1+1+1+1:=by omega
  rw [z5] at k5;refine ⟨V5,by rw [e5,e4,e3,e2,e1],(zAA (zAA (zAA (zAA b1 b2) b3) b4) b5),((((k1.next b2).next b3).next b4).next b5),⟨(((k2.next b3).next b4).next b5),((k3.next b4).next b5),(k4.next b5),k5⟩⟩
 obtain ⟨V,hV,hb0,ka,E⟩:=HE;by_cases hn:20<xln
 ·rw [Yf hn] at HV
  clear ka E H1 H2;go_enter Tryz.func8,Tryz.ntmps8
  go_wp2_with fail
  go_ret;rw [hV] at hb0;exact ⟨by rw [HV.out];first | rfl | simp;omega,hb0⟩
 rw [Ye hn] at HV;have hd:decide (20<(xln:Int))=false:=Ye (by omega);have HVV:=Zh hV;clear hV;go_enter Tryz.func8,Tryz.ntmps8
 go_wp2_with fail
 have hV:=HVV.out;clear HVV;rw [<- hV];clear hV;refine (H1.out _ hb0 _ _ _ _ E).mono ?_;rintro e w1 ⟨rfl,hb1x⟩
 replace hb0:=zAA hb0 hb1x;replace ka:=ka.next hb1x;replace E:=E.next hb1x;clear hb1x;cases hv1:b1;rotate_left
 ·rw [hv1] at HV
  clear hv1;go_wp2_with fail
  go_ret;exact ⟨by rw [HV.out];rfl,hb0⟩
 rw [hv1] at HV;clear hv1;obtain ⟨kaq0,kaq1,kaq2,kaq3,kaq4,kaq5⟩:=ka.cells6;have p4:=E.k4.cells1;have p5:=E.k5.cells1;have p6:=E.k6.cells1;have p7:=E.k7.cells1;go_wp2_with fail
 clear p4 p5 p6 p7;refine (H2.out _ hb0 _ _ _ _ E).mono ?_;rintro e w2 ⟨rfl,hb2x⟩
 clear kaq0 kaq1 kaq2 kaq3 kaq4 kaq5;replace hb0:=zAA hb0 hb2x;replace ka:=ka.next hb2x;replace E:=E.next hb2x;clear hb2x;go_wp2_with fail
 go_ret;exact ⟨by rw [HV.out];rfl,hb0⟩
def zC0:Ct:=⟨0,0,⟨[],[],[]⟩,[]⟩
def smC (x:Ct) (e:Int) (y:Ct) (f:Int):Bool:=
 decide (e=f) && (if e=0 then ctE x y else decide (x.prec=0) && decide (x.order=0) && decide (x.start.c.length=0) && decide (x.links.length=0))
theorem zFl {k:Int}(hk:k≠0) (y:Ct):smC zC0 k y k=true:=by
 unfold smC;rw [if_neg hk];simp [zC0]
theorem zPH {x:Ct}(h:LmC x) (hv:ctV x=true):smC x 0 x 0=true:=by
 unfold smC;rw [if_pos rfl,zPz h,hv];rfl
def zVx (o:Ct×Int) (w:World) (e:Ending) (w':World):Prop:=∃us:List Value,e=.returned (.tuple #[.agg us.toArray,.int .i64 o.2])/\us.length=6/\RC w' us o.1/\Below w.heap.size w w'
theorem zA3 (w:World):RC w [.int .i64 0,.int .i64 0,.slice none 0 0,.slice none 0 0,.slice none 0 0,.slice none 0 0] zC0:=⟨none,0,0,none,0,0,none,0,0,none,0,0,rfl,Sl.nil _,Sl.nil _,Sl.nil _,Sl.nil _⟩
theorem zBL {fn:Func}{k j:Nat}(h:fn.results=#[.cell k 29,.tmp j]) {tmps:Array Value}{W:World}{g:Nat}{t:TypeId}{x0 x1 x2 x3 x4 x5:Value}(hk:tmps.getD k undef=.pointer (some ⟨g,0,none⟩)) (hB:Blk W g t #[x0,x1,x2,x3,x4,x5]) :
  (results fn tmps).run Tryz.prog W=.ok (.tuple #[.agg #[x0,x1,x2,x3,x4,x5],tmps.getD j undef]) W:=by
 have c0:=hB.cell 0;have c1:=hB.cell 1;have c2:=hB.cell 2;have c3:=hB.cell 3;have c4:=hB.cell 4;have c5:=hB.cell 5;simp at c0 c1 c2 c3 c4 c5;have hk':tmps[k]?.getD undef=.pointer (some ⟨g,0,none⟩):=by simpa using hk
 simp [results,h,hk',go_sem,c0,c1,c2,c3,c4,c5]
theorem zOe {α:Type}{k:Nat}{R:World->List Value->α->Prop}{G:Nat->Prop}{w:World}{A:Option Addr}{n c:Nat}{xs:List α}(h:On w.heap.size G w (fun W=>Sl k R W A n c xs)) (hk:0<k) (h0:∀W vs x,R W vs x->vs[0]? ≠ some (.int .u32 7)) {i:Nat}(hi:i<n) :
  ∃ (b off:Nat) (x:α) (vs:List Value),A=some ⟨b,off,none⟩/\b<w.heap.size/\G b/\xs[i]? = some x/\vs.length=k/\(∀ (j:Nat) (v:Value),vs[j]? = some v->w.cell? ⟨b,off+i*k+j,none⟩=some v)/\On w.heap.size G w (fun W=>R W vs x):=by
 obtain ⟨b,off,x,vs,e,hb,hx,hl,hR,hc⟩:=(h.here (Ya _)).get hi;have hGb:G b:=by
  rcases Classical.em (G b) with hG | hG
  ·exact hG
  ·exfalso
   have h1:=h (w.setCell ⟨b,off+i*k,none⟩ (.int .u32 7)) (by simp [World.setCell]) (fun b' hb'=>Yl _ _ _ _ (fun e=>hG (by rw [show b' = b from e] at hb';exact hb')));obtain ⟨b2,off2,x2,vs2,e2,_,hx2,hl2,hR2,hc2⟩:=h1.get hi;rw [e] at e2;injection e2 with e2
   injection e2 with e2 e3 _
   subst e2 e3;have z1:0<vs.length:=by omega
   have z2:0<vs2.length:=by omega
   have c0:=hc 0 vs[0] (Yo z1);have c1:=hc2 0 vs2[0] (Yo z2);rw [Nat.add_zero] at c0 c1;rw [World.cell?_setCell_same _ _ _ c0] at c1;injection c1 with c1
   exact h0 _ _ _ hR2 (by rw [Yo z2,<- c1])
 refine ⟨b,off,x,vs,e,hb,hGb,hx,hl,hc,fun W h1 h2=>?_⟩;obtain ⟨b2,off2,x2,vs2,e2,_,hx2,hl2,hR2,hc2⟩:=(h W h1 h2).get hi;rw [e] at e2;injection e2 with e2
 injection e2 with e2 e3 _
 subst e2 e3;rw [hx] at hx2;injection hx2 with hx2
 subst hx2;have ev:vs2=vs:=by
  apply List.ext_getElem (by omega)
  intro j j1 j2;have c0:=hc j vs[j] (Yo j2);have c1:=hc2 j vs2[j] (Yo j1);rw [World.cell?_of_block (w:=w) (a:=⟨b,off+i*k+j,none⟩) (h2 b hGb),c0] at c1;injection c1 with c1
  exact c1.symm
 rw [<- ev];exact hR2
theorem zNo {W W':World}(h:W'.heap=W.heap) (p:Addr):W'.cell? p=W.cell? p:=by unfold World.cell?;rw [h]
def HpO {α:Type}(R:World->List Value->α->Prop):Prop:=∀W W' vs x,W'.heap=W.heap->R W vs x->R W' vs x
theorem SL.hp {W W':World}{A:Option Addr}{n c:Nat}{l:List Nat}(h:SL W A n c l) (e:W'.heap=W.heap):SL W' A n c l:=
 ⟨h.len,h.cap,h.max,h.lt,fun hn=>by
  obtain ⟨b,off,e1,hb,hc⟩:=h.at_ hn;exact ⟨b,off,e1,by rw [e];exact hb,fun j x hj=>(zNo e _).trans (hc j x hj)⟩⟩
theorem Sl.hp {α:Type}{k:Nat}{R:World->List Value->α->Prop}{W W':World}{A:Option Addr}{n c:Nat}{xs:List α}(h:Sl k R W A n c xs) (hR:HpO R) (e:W'.heap=W.heap):Sl k R W' A n c xs:=
 ⟨h.len,h.cap,h.max,fun hn=>by
  obtain ⟨b,off,e1,hb,hc⟩:=h.at_ hn;refine ⟨b,off,e1,by rw [e];exact hb,fun j x hj=>?_⟩;obtain ⟨vs,h1,h2,h3⟩:=hc j x hj;exact ⟨vs,h1,hR _ _ _ _ e h2,fun i v hi=>(zNo e _).trans (h3 i v hi)⟩⟩
theorem zSP:HpO RD:=by
 rintro W W' vs x e ⟨A,n,c,rfl,h⟩
 exact ⟨A,n,c,rfl,h.hp e⟩
theorem zUA:HpO RI:=by
 rintro W W' vs x e ⟨A,n,c,B,m,d,rfl,h,h'⟩
 exact ⟨A,n,c,B,m,d,rfl,h.hp e,h'.hp e⟩
theorem zUC:HpO RM:=by
 rintro W W' vs x e ⟨A,n,c,rfl,h⟩
 exact ⟨A,n,c,rfl,h.hp zSP e⟩
theorem zUB:HpO RL:=by
 rintro W W' vs x e ⟨H,hn,hc,T,tn,tc,A,n,c,B,m,d,C,p,q,V,vn,vc,rfl,h1,h2,h3,h4,h5,h6⟩
 exact ⟨H,hn,hc,T,tn,tc,A,n,c,B,m,d,C,p,q,V,vn,vc,rfl,h1.hp e,h2.hp zUA e,h3.hp zSP e,h4.hp zUC e,h5.hp zUA e,h6.hp zUC e⟩
theorem zeL {α:Type}{R:World->List Value->α->Prop}(hl:zJM R) (hR:HpO R) {w:World}{vs:List Value}{x:α}(h:R w vs x):On w.heap.size (fun b=>b<w.heap.size) w (fun W=>R W vs x):=fun W h1 h2=>
 hR { w with heap:=W.heap } W vs x rfl (hl w { w with heap:=W.heap } vs x h ⟨rfl,rfl,rfl,h1,h2⟩)
theorem zVT:∀W vs (x:Lk),RL W vs x->vs[0]? ≠ some (.int .u32 7):=by
 rintro W vs x ⟨H,hn,hc,T,tn,tc,A,n,c,B,m,d,C,p,q,V,vn,vc,rfl,_⟩
 simp
end Go.Proofs.YtchkfjgcbbbffaaGreatDoor
end
