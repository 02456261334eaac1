/- Bundle 11: what the law's walk stands on: S6. -/
import Derived.Deep.DeepCutAuto
import Derived.Test.YtchkfjgcbbbffaaGreatDoorX10
set_option maxRecDepth 100000
set_option maxHeartbeats 20000000
set_option linter.all false
noncomputable section
namespace Go.Proofs.YtchkfjgcbbbffaaGreatDoor
open Go.RowKit Pl Go.Shelf
theorem zSV:(Tryz.prog.info? 86).map (fun i=>(i.zero,i.size,i.bytes))=some (some (.agg #[.bool false,.slice none 0 0,.int .i64 0,.slice none 0 0,.slice none 0 0,.slice none 0 0,.slice none 0 0,.slice none 0 0]),8,160):=by kernel_rfl
structure KR (g:Nat) (w w':World):Prop where
 os:w'.os=w.os
 tape:w'.tape=w.tape
 output:w'.output=w.output
 size:w.heap.size<=w'.heap.size
 block:∀b,b<w.heap.size->b≠g->w'.heap[b]? = w.heap[b]?
section
variable {g:Nat}{w w' w'':World}
theorem KR.refl (g:Nat) (w:World):KR g w w:=⟨rfl,rfl,rfl,Ya _,fun _ _ _=>rfl⟩
theorem KR.trans (h:KR g w w') (k:KR g w' w''):KR g w w'':=⟨k.os.trans h.os,k.tape.trans h.tape,k.output.trans h.output,Yq h.size k.size,fun b hb hg=>(k.block b (Yh hb h.size) hg).trans (h.block b hb hg)⟩
theorem KR.of (h:Below w.heap.size w w'):KR g w w':=⟨h.os,h.tape,h.output,h.size,fun b hb _=>h.block b hb⟩
theorem KR.below {B:Nat}(h:KR g w w') (hB:B<=w.heap.size) (hg:B<=g):Below B w w':=⟨h.os,h.tape,h.output,h.size,fun b hb=>h.block b (by omega) (by omega)⟩
theorem KR.set (i:Nat) (v:Value):KR g w (w.setCell ⟨g,i,none⟩ v):=⟨rfl,rfl,rfl,by simp [World.setCell],fun b _ hg=>Yl _ _ _ _ hg⟩
theorem KR.blk {b:Nat}{t:TypeId}{cs:Array Value}(h:KR g w w') (hk:Blk w b t cs) (hg:b≠g):Blk w' b t cs:=(h.block b hk.lt hg).trans hk
theorem KR.thenB (h:KR g w w') (k:Below w.heap.size w' w''):KR g w w'':=⟨k.os.trans h.os,k.tape.trans h.tape,k.output.trans h.output,Yq h.size k.size,fun b hb hg=>(k.block b hb).trans (h.block b hb hg)⟩
end
theorem zED {e:TypeId}{k:Nat}{w:World}{base:Nat}{v:Value}{fs:List (List Value)}(h:zKf e k w base v fs):∃A n c,v=.slice A n c:=by
 obtain ⟨A,c,h,_,_⟩:=h.form;exact ⟨A,_,c,h⟩
structure Got (lo hi T:Nat) (w:World) (P:World->Prop):Prop where
 le:hi<=w.heap.size
 on:On hi (fun b=>lo<=b/\b<hi/\b≠T) w P
theorem Got.next {lo hi T:Nat}{w w':World}{P:World->Prop}(h:Got lo hi T w P) (hb:Below w.heap.size w w'):Got lo hi T w' P:=⟨Yq h.le hb.size,h.on.move (fun b hF=>hb.block b (Yh hF.2.1 h.le))⟩
theorem Got.of {lo hi B:Nat}{w:World}{P:World->Prop}(h:Ly B w P) (h1:lo=B) (h2:hi=w.heap.size):Got lo hi w.heap.size w P:=by
 subst h1 h2;exact ⟨Ya _,fun W e1 e2=>h W e1 (fun b b1 b2=>e2 b ⟨b1,b2,by omega⟩)⟩
structure zPg (lo hi T:Nat) (w:World) (xs:List Iv):Prop where
 le:hi<=w.heap.size
 l:lo<=T
 r:T<hi
 row:zFo hi (fun b=>lo<=b/\b<hi/\b≠T) w T xs
theorem zPg.next {lo hi T:Nat}{w w':World}{xs:List Iv}(h:zPg lo hi T w xs) (hb:Below w.heap.size w w'):zPg lo hi T w' xs:=⟨Yq h.le hb.size,h.l,h.r,h.row.move (hb.block T (Yh h.r h.le)) (fun b hF=>hb.block b (Yh hF.2.1 h.le))⟩
theorem zeN {fn:Func}{k:Nat}(h:fn.results=#[.cell k 26]) {tmps:Array Value}{W:World}{g:Nat}{t:TypeId}{x0 x1 x2:Value}(hk:tmps.getD k undef=.pointer (some ⟨g,0,none⟩)) (hB:Blk W g t #[x0,x1,x2]) :
  (results fn tmps).run Tryz.prog W=.ok (.agg #[x0,x1,x2]) W:=by
 have c0:=hB.cell 0;have c1:=hB.cell 1;have c2:=hB.cell 2;simp at c0 c1 c2;have hk':tmps[k]?.getD undef=.pointer (some ⟨g,0,none⟩):=by simpa using hk
 simp [results,h,hk',go_sem,c0,c1,c2]
theorem zj1 {fn:Func}{k:Nat}(h:fn.results=#[.cell k 29]) {tmps:Array Value}{W:World}{g:Nat}{t:TypeId}{x0 x1 x2 x3 x4 x5:Value}(hk:tmps.getD k undef=.pointer (some ⟨g,0,none⟩)) (hB:Blk W g t #[x0,x1,x2,x3,x4,x5]) :
  (results fn tmps).run Tryz.prog W=.ok (.agg #[x0,x1,x2,x3,x4,x5]) W:=by
 have c0:=hB.cell 0;have c1:=hB.cell 1;have c2:=hB.cell 2;have c3:=hB.cell 3;have c4:=hB.cell 4;have c5:=hB.cell 5;simp at c0 c1 c2 c3 c4 c5;have hk':tmps[k]?.getD undef=.pointer (some ⟨g,0,none⟩):=by simpa using hk
 simp [results,h,hk',go_sem,c0,c1,c2,c3,c4,c5]
structure SzF (f:Fr):Prop where
 c:f.c.length<=1000
 a:f.a.length<=1000
 l:∀l∈f.a,l.length<=1000
 r:f.r.length<=1000
 p:0<f.r.length
theorem szF {f:Fr}(h:frV f=true):SzF f:=by
 unfold frV at h;simp only [Yi,Xa] at h;obtain ⟨⟨⟨⟨⟨⟨v1,v2⟩,v3⟩,v4⟩,v5⟩,v6⟩,v7⟩:=h;refine ⟨by omega,by omega,fun l hl=>?_,by omega,by omega⟩;have:=zDf v6 l hl;rw [Xc] at this;have:=of_decide_eq_false this.1;omega
structure zhC (f:Fr) (W0 wx:World) (g T:Nat) (B:Option Addr) (d q:Nat):Prop where
 blk:Blk wx g 26 #[.slice none 0 0,.slice B f.a.length d,.slice (some ⟨T,0,none⟩) f.r.length q]
 g0:W0.heap.size<=g
 t0:W0.heap.size<=T
 ne:T≠g
 tl:T<wx.heap.size
 q1:f.r.length<=q
 q2:q<=9223372036854775807
 a:On wx.heap.size (fun b=>W0.heap.size<=b/\b<wx.heap.size/\b≠T/\b≠g) wx (fun W=>Sl 1 RM W B f.a.length d f.a)
 r:zFo wx.heap.size (fun b=>W0.heap.size<=b/\b<wx.heap.size/\b≠T/\b≠g) wx T f.r
 b:Below W0.heap.size W0 wx
def VFr (f:Fr) (w:World) (e:Ending) (w':World):Prop:=∃A c B d T q,e=.returned (.agg #[.slice A f.c.length c,.slice B f.a.length d,.slice (some ⟨T,0,none⟩) f.r.length q])/\w.heap.size<=T/\T<w'.heap.size/\f.r.length<=q/\q<=9223372036854775807/\
 Got w.heap.size w'.heap.size T w' (fun W=>Sl 3 RD W A f.c.length c f.c/\Sl 1 RM W B f.a.length d f.a)/\zPg w.heap.size w'.heap.size T w' f.r/\Below w.heap.size w w'
theorem zET (vs:List Value) (f:Fr) (w:World) (h:RF w vs f) (hx:BdF f) (hz:SzF f):Calls Tryz.prog 91 #[.agg vs.toArray] w (VFr f w):=by
 obtain ⟨xA,xn,xc,xB,xm,xd,xC,xp,xq,rfl,hx1,hx2,hx3⟩:=h;have hW1:=zAE w (.cells #[.slice xA xn xc,.slice xB xm xd,.slice xC xp xq] 26);have hW2:=zAE (w.alloc (.cells #[.slice xA xn xc,.slice xB xm xd,.slice xC xp xq] 26)) (.cells #[.slice none 0 0,.slice none 0 0,.slice none 0 0] 26);have hb0:=zAA hW1 hW2;have kx:=(Blk.new w 26 #[.slice xA xn xc,.slice xB xm xd,.slice xC xp xq]).next hW2;have kr:Blk ((w.alloc (.cells #[.slice xA xn xc,.slice xB xm xd,.slice xC xp xq] 26)).alloc (.cells #[.slice none 0 0,.slice none 0 0,.slice none 0 0] 26)) (w.heap.size+1) 26 #[.slice none 0 0,.slice none 0 0,.slice none 0 0]:=Blk.newAt _ _ _ (by simp);have hsz:((w.alloc (.cells #[.slice xA xn xc,.slice xB xm xd,.slice xC xp xq] 26)).alloc (.cells #[.slice none 0 0,.slice none 0 0,.slice none 0 0] 26)).heap.size=w.heap.size+2:=by simp
 have hsz1:=Ys hsz;have hsz2:=Ys hsz.symm;clear hsz;have HX:=Zh hx;have HZ:=Zh hz;have HX1:=Zh hx1;have HX2:=Zh hx2;have HX3:=Zh hx3;have m1:=hx1.cap;have m2:=hx1.max;have l1:=hx1.len;have l2:=hx2.len;have l3:=hx3.len;have z1:=hz.c;have z2:=hz.a;have z4:=hz.r;have z5:=hz.p;have HP:=Zh z5;have hxn:xn<=1000:=by omega
 have hxm:xm<=1000:=by omega
 have hxp:xp<=1000:=by omega
 clear hx hz hx1 hx2 hx3 hW1 hW2 z1 z2 z4 z5;have HL1:=Zh l1;have HL2:=Zh l2;have HL3:=Zh l3;clear l1 l2 l3;obtain ⟨p0,p1,p2⟩:=kx.cells3;go_enter Tryz.func91,Tryz.ntmps91
 go_upto_region 1 with fail
 generalize ((w.alloc (.cells #[.slice xA xn xc,.slice xB xm xd,.slice xC xp xq] 26)).alloc (.cells #[.slice none 0 0,.slice none 0 0,.slice none 0 0] 26))=W0 at *;have HB0:=Zh hb0;have HKR:=Zh kr;have HC1:=Zh (fun W (hW:Below W0.heap.size W0 W)=>zF5 xB xm xd f.a W ((HX2.out.next zAh HB0.out).next zAh hW) HX.out.a hxm HZ.out.l);have HC2:=Zh (fun W (hW:Below W0.heap.size W0 W)=>zEU xC xp xq f.r W ((HX3.out.next zAX HB0.out).next zAX hW) HX.out.r hxp);clear hb0 kr
 go_cut [3] (fun s3 wx=>∃g T B d q,s3=.pointer (some ⟨g,0,none⟩)/\zhC f W0 wx g T B d q)
 case first=>
  have HK:Hid (∀V,Below W0.heap.size W0 V->(fun W=>Blk W w.heap.size 26 #[.slice xA xn xc,.slice xB xm xd,.slice xC xp xq]) V):=fun V hV=>kx.next hV
  have HKp:=Zh (HK.out _ (zBw W0));have hB:=zBw W0;have hsd1:W0.drew.heap.size<=W0.heap.size:=Ya _;have hsd2:W0.heap.size<=W0.drew.heap.size:=Ya _;clear p0 p1 p2 kx;refine wp_region_held_drew (S:=(fun W=>Blk W w.heap.size 26 #[.slice xA xn xc,.slice xB xm xd,.slice xC xp xq])) (by kernel_rfl) (HK.out _ hB) (fun hH=>?_);generalize W0.drew=Wd at *;refine tk (i:=0) (oi:=⟨_,_,_,_,_,_⟩) (v:=?_) rfl (by rfl) ?_ hH ?_;rotate_left
  ·(intro w hSw;obtain ⟨p0,p1,p2⟩:=Blk.cells3 hSw;go_simp;try (with_reducible rfl))
  simp only [Act.put,sT,sZ,sS];refine tk (i:=1) (oi:=⟨_,_,_,_,_,_⟩) (v:=?_) rfl (by rfl) ?_ hH ?_;rotate_left
  ·(intro w hSw;obtain ⟨p0,p1,p2⟩:=Blk.cells3 hSw;go_simp;try (with_reducible rfl))
  simp only [Act.put,sT,sZ,sS];refine tk (i:=3) (oi:=⟨_,_,_,_,_,_⟩) (v:=?_) rfl (by rfl) ?_ hH ?_;rotate_left
  ·(intro w hSw;obtain ⟨p0,p1,p2⟩:=Blk.cells3 hSw;go_simp;try (with_reducible rfl))
  simp only [Act.put,sT,sZ,sS];refine tk (i:=4) (oi:=⟨_,_,_,_,_,_⟩) (v:=?_) rfl (by rfl) ?_ hH ?_;rotate_left
  ·(intro w hSw;obtain ⟨p0,p1,p2⟩:=Blk.cells3 hSw;go_simp;try (with_reducible rfl))
  simp only [Act.put,sT,sZ,sS];refine Yj (rs:=[2,7]) (by kernel_rfl) (by simp) ?_;refine Yc (o:=⟨_,_,_,_,_,_⟩) rfl (fun K hK=>?_) ?_
  ·go_simp
   refine (HC1.out _ hB).mono ?_;rintro e V1 ⟨NA,nc,rfl,hly,hc⟩
   obtain ⟨lo1,hlo1⟩:∃n,n=Wd.heap.size:=⟨_,rfl⟩;obtain ⟨hi1,hhi1⟩:∃n,n=V1.heap.size:=⟨_,rfl⟩;have HN:=Zh (Got.of hly hlo1 hhi1);have hs1:=hc.size
   try replace HI:=Zh (HI.out.next hc)
   try replace HG:=Zh (HG.out.next hc)
   replace hB:=zAA hB hc;replace HKp:=Zh (HK.out _ hB);clear hc hly;go_wp2_with fail
   refine hK.out _ _ (HKp.out) (fun hH=>?_);clear hK K;refine Yj (rs:=[5,7]) (by kernel_rfl) (by simp) ?_;refine Yc (o:=⟨_,_,_,_,_,_⟩) rfl (fun K hK=>?_) ?_
   ·go_simp
    refine (HC2.out _ hB).mono ?_;rintro e V2 ⟨va,fsa,rfl,hacc,hc⟩
    obtain ⟨lo2,hlo2⟩:∃n,n=V1.heap.size:=⟨_,rfl⟩;obtain ⟨hi2,hhi2⟩:∃n,n=V2.heap.size:=⟨_,rfl⟩;obtain ⟨T,q,rfl,ht1,hq1,hq2,hrow⟩:=hacc.row HP.out;have ht2:=hrow.lt;have HI:Hid (zPg lo2 hi2 T V2 f.r):=⟨by omega,by omega,by omega,hrow.sub (by omega) (fun b hb=>⟨by omega,by omega,hb.2.2⟩)⟩;have hs2:=hc.size
    try replace HN:=Zh (HN.out.next hc)
    try replace HG:=Zh (HG.out.next hc)
    replace hB:=zAA hB hc;replace HKp:=Zh (HK.out _ hB);clear hc hacc hrow;go_wp2_with fail
    refine hK.out _ _ (HKp.out) (fun hH=>?_);clear hK K;refine tk (i:=6) (oi:=⟨_,_,_,_,_,_⟩) (v:=?_) rfl (by rfl) ?_ hH ?_;rotate_left
    ·(intro w hSw;obtain ⟨p0,p1,p2⟩:=Blk.cells3 hSw;go_simp;try (with_reducible rfl))
    simp only [Act.put,sT,sZ,sS];refine Yj (rs:=[7]) (by kernel_rfl) (by simp) ?_;refine Yc (o:=⟨_,_,_,_,_,_⟩) rfl (fun K hK=>?_) Yd
    go_simp
    have hgs1:(V2.alloc (.cells #[.slice none 0 0,.slice none 0 0,.slice none 0 0] 26)).heap.size<=V2.heap.size+1:=by simp
    have hgs2:V2.heap.size+1<=(V2.alloc (.cells #[.slice none 0 0,.slice none 0 0,.slice none 0 0] 26)).heap.size:=by simp
    have HG:Hid (Blk (V2.alloc (.cells #[.slice none 0 0,.slice none 0 0,.slice none 0 0] 26)) V2.heap.size 26 #[.slice none 0 0,.slice none 0 0,.slice none 0 0]):=Blk.new _ _ _;have hc:=zAE V2 (.cells #[.slice none 0 0,.slice none 0 0,.slice none 0 0] 26)
    try replace HN:=Zh (HN.out.next hc)
    try replace HI:=Zh (HI.out.next hc)
    replace hB:=zAA hB hc;replace HKp:=Zh (HK.out _ hB);clear hc;generalize (V2.alloc (.cells #[.slice none 0 0,.slice none 0 0,.slice none 0 0] 26))=Y1 at *;refine hK.out _ _ (HKp.out) (fun hH=>?_);clear hK K;refine Yj (rs:=[8]) (by kernel_rfl) (by simp) ?_;refine Yc (o:=⟨_,_,_,_,_,_⟩) rfl (fun K hK=>?_) Yd;obtain ⟨r0,r1,r2⟩:=HG.out.cells3;have f0:=HG.out.frozen 0;have f1:=HG.out.frozen 1;have f2:=HG.out.frozen 2
    go_simp
    clear r0 r1 r2 f0 f1 f2;have hgg:W0.heap.size<=V2.heap.size:=by omega
    have HG2:=Zh (HG.out.set3 (.slice none 0 0) (.slice NA f.a.length nc) (.slice (some ⟨T,0,none⟩) f.r.length q));have hbe:=zAG hB hgg (.slice none 0 0) (.slice NA f.a.length nc) (.slice (some ⟨T,0,none⟩) f.r.length q);have hne:V2.heap.size<lo2\/hi2<=V2.heap.size:=by omega
    have hne1:V2.heap.size<lo1\/hi1<=V2.heap.size:=by omega
    have hmv:∀b,b≠V2.heap.size->(((Y1.setCell ⟨V2.heap.size,0,none⟩ (.slice none 0 0)).setCell ⟨V2.heap.size,1,none⟩ (.slice NA f.a.length nc)).setCell ⟨V2.heap.size,2,none⟩ (.slice (some ⟨T,0,none⟩) f.r.length q)).heap[b]? = Y1.heap[b]?:=fun b hb=>(Yl _ _ _ _ hb).trans ((Yl _ _ _ _ hb).trans (Yl _ _ _ _ hb))
    have hse:(((Y1.setCell ⟨V2.heap.size,0,none⟩ (.slice none 0 0)).setCell ⟨V2.heap.size,1,none⟩ (.slice NA f.a.length nc)).setCell ⟨V2.heap.size,2,none⟩ (.slice (some ⟨T,0,none⟩) f.r.length q)).heap.size=Y1.heap.size:=by simp [World.setCell]
    have hKe:=(hmv w.heap.size (by omega)).trans HKp.out;generalize (((Y1.setCell ⟨V2.heap.size,0,none⟩ (.slice none 0 0)).setCell ⟨V2.heap.size,1,none⟩ (.slice NA f.a.length nc)).setCell ⟨V2.heap.size,2,none⟩ (.slice (some ⟨T,0,none⟩) f.r.length q))=WE at *;replace HKp:=Zh hKe;clear hKe;refine hK.out _ _ (HKp.out) (fun hH=>?_);clear hK K;refine wpAnyH_done (by kernel_rfl) ?_ _;go_wp2_with fail
    go_meet
    have hi:=HI.out;have hn:=HN.out;have hl:=hi.le;have hl1:=hn.le;have hr:=hi.r;have hl2:=hi.l;refine ⟨_,T,NA,nc,q,rfl,HG2.out,hgg,by omega,by omega,by omega,hq1,hq2,?_,?_,hbe⟩
    ·exact (hn.on.move (fun b hb=>hmv b (by omega))).sub (by omega) (fun b hb=>⟨by omega,by omega,by omega,by omega⟩)
    ·exact (hi.row.move (hmv T (by omega)) (fun b hb=>hmv b (by omega))).sub (by omega) (fun b hb=>⟨by omega,by omega,by omega,by omega⟩)
   refine Yc (o:=⟨_,_,_,_,_,_⟩) rfl (fun K hK=>?_) Yd
   go_simp
   have hgs1:(V1.alloc (.cells #[.slice none 0 0,.slice none 0 0,.slice none 0 0] 26)).heap.size<=V1.heap.size+1:=by simp
   have hgs2:V1.heap.size+1<=(V1.alloc (.cells #[.slice none 0 0,.slice none 0 0,.slice none 0 0] 26)).heap.size:=by simp
   have HG:Hid (Blk (V1.alloc (.cells #[.slice none 0 0,.slice none 0 0,.slice none 0 0] 26)) V1.heap.size 26 #[.slice none 0 0,.slice none 0 0,.slice none 0 0]):=Blk.new _ _ _;have hc:=zAE V1 (.cells #[.slice none 0 0,.slice none 0 0,.slice none 0 0] 26)
   try replace HN:=Zh (HN.out.next hc)
   try replace HI:=Zh (HI.out.next hc)
   replace hB:=zAA hB hc;replace HKp:=Zh (HK.out _ hB);clear hc;generalize (V1.alloc (.cells #[.slice none 0 0,.slice none 0 0,.slice none 0 0] 26))=Y2 at *;refine hK.out _ _ (HKp.out) (fun hH=>?_);clear hK K;refine Yj (rs:=[5]) (by kernel_rfl) (by simp) ?_;refine Yc (o:=⟨_,_,_,_,_,_⟩) rfl (fun K hK=>?_) Yd
   go_simp
   refine (HC2.out _ hB).mono ?_;rintro e V6 ⟨va,fsa,rfl,hacc,hc⟩
   obtain ⟨lo2,hlo2⟩:∃n,n=Y2.heap.size:=⟨_,rfl⟩;obtain ⟨hi2,hhi2⟩:∃n,n=V6.heap.size:=⟨_,rfl⟩;obtain ⟨T,q,rfl,ht1,hq1,hq2,hrow⟩:=hacc.row HP.out;have ht2:=hrow.lt;have HI:Hid (zPg lo2 hi2 T V6 f.r):=⟨by omega,by omega,by omega,hrow.sub (by omega) (fun b hb=>⟨by omega,by omega,hb.2.2⟩)⟩;have hs2:=hc.size
   try replace HN:=Zh (HN.out.next hc)
   try replace HG:=Zh (HG.out.next hc)
   replace hB:=zAA hB hc;replace HKp:=Zh (HK.out _ hB);clear hc hacc hrow;go_wp2_with fail
   refine hK.out _ _ (HKp.out) (fun hH=>?_);clear hK K;refine tk (i:=6) (oi:=⟨_,_,_,_,_,_⟩) (v:=?_) rfl (by rfl) ?_ hH ?_;rotate_left
   ·(intro w hSw;obtain ⟨p0,p1,p2⟩:=Blk.cells3 hSw;go_simp;try (with_reducible rfl))
   simp only [Act.put,sT,sZ,sS];refine Yj (rs:=[8]) (by kernel_rfl) (by simp) ?_;refine Yc (o:=⟨_,_,_,_,_,_⟩) rfl (fun K hK=>?_) Yd;obtain ⟨r0,r1,r2⟩:=HG.out.cells3;have f0:=HG.out.frozen 0;have f1:=HG.out.frozen 1;have f2:=HG.out.frozen 2
   go_simp
   clear r0 r1 r2 f0 f1 f2;have hgg:W0.heap.size<=V1.heap.size:=by omega
   have HG2:=Zh (HG.out.set3 (.slice none 0 0) (.slice NA f.a.length nc) (.slice (some ⟨T,0,none⟩) f.r.length q));have hbe:=zAG hB hgg (.slice none 0 0) (.slice NA f.a.length nc) (.slice (some ⟨T,0,none⟩) f.r.length q);have hne:V1.heap.size<lo2\/hi2<=V1.heap.size:=by omega
   have hne1:V1.heap.size<lo1\/hi1<=V1.heap.size:=by omega
   have hmv:∀b,b≠V1.heap.size->(((V6.setCell ⟨V1.heap.size,0,none⟩ (.slice none 0 0)).setCell ⟨V1.heap.size,1,none⟩ (.slice NA f.a.length nc)).setCell ⟨V1.heap.size,2,none⟩ (.slice (some ⟨T,0,none⟩) f.r.length q)).heap[b]? = V6.heap[b]?:=fun b hb=>(Yl _ _ _ _ hb).trans ((Yl _ _ _ _ hb).trans (Yl _ _ _ _ hb))
   have hse:(((V6.setCell ⟨V1.heap.size,0,none⟩ (.slice none 0 0)).setCell ⟨V1.heap.size,1,none⟩ (.slice NA f.a.length nc)).setCell ⟨V1.heap.size,2,none⟩ (.slice (some ⟨T,0,none⟩) f.r.length q)).heap.size=V6.heap.size:=by simp [World.setCell]
   have hKe:=(hmv w.heap.size (by omega)).trans HKp.out;generalize (((V6.setCell ⟨V1.heap.size,0,none⟩ (.slice none 0 0)).setCell ⟨V1.heap.size,1,none⟩ (.slice NA f.a.length nc)).setCell ⟨V1.heap.size,2,none⟩ (.slice (some ⟨T,0,none⟩) f.r.length q))=WE at *;replace HKp:=Zh hKe;clear hKe;refine hK.out _ _ (HKp.out) (fun hH=>?_);clear hK K;refine wpAnyH_done (by kernel_rfl) ?_ _;go_wp2_with fail
   go_meet
   have hi:=HI.out;have hn:=HN.out;have hl:=hi.le;have hl1:=hn.le;have hr:=hi.r;have hl2:=hi.l;refine ⟨_,T,NA,nc,q,rfl,HG2.out,hgg,by omega,by omega,by omega,hq1,hq2,?_,?_,hbe⟩
   ·exact (hn.on.move (fun b hb=>hmv b (by omega))).sub (by omega) (fun b hb=>⟨by omega,by omega,by omega,by omega⟩)
   ·exact (hi.row.move (hmv T (by omega)) (fun b hb=>hmv b (by omega))).sub (by omega) (fun b hb=>⟨by omega,by omega,by omega,by omega⟩)
  refine Yc (o:=⟨_,_,_,_,_,_⟩) rfl (fun K hK=>?_) Yd
  go_simp
  have hgs1:(Wd.alloc (.cells #[.slice none 0 0,.slice none 0 0,.slice none 0 0] 26)).heap.size<=Wd.heap.size+1:=by simp
  have hgs2:Wd.heap.size+1<=(Wd.alloc (.cells #[.slice none 0 0,.slice none 0 0,.slice none 0 0] 26)).heap.size:=by simp
  have HG:Hid (Blk (Wd.alloc (.cells #[.slice none 0 0,.slice none 0 0,.slice none 0 0] 26)) Wd.heap.size 26 #[.slice none 0 0,.slice none 0 0,.slice none 0 0]):=Blk.new _ _ _;have hc:=zAE Wd (.cells #[.slice none 0 0,.slice none 0 0,.slice none 0 0] 26)
  try replace HN:=Zh (HN.out.next hc)
  try replace HI:=Zh (HI.out.next hc)
  replace hB:=zAA hB hc;replace HKp:=Zh (HK.out _ hB);clear hc;generalize (Wd.alloc (.cells #[.slice none 0 0,.slice none 0 0,.slice none 0 0] 26))=Y3 at *;refine hK.out _ _ (HKp.out) (fun hH=>?_);clear hK K;refine Yj (rs:=[2]) (by kernel_rfl) (by simp) ?_;refine Yc (o:=⟨_,_,_,_,_,_⟩) rfl (fun K hK=>?_) Yd
  go_simp
  refine (HC1.out _ hB).mono ?_;rintro e V9 ⟨NA,nc,rfl,hly,hc⟩
  obtain ⟨lo1,hlo1⟩:∃n,n=Y3.heap.size:=⟨_,rfl⟩;obtain ⟨hi1,hhi1⟩:∃n,n=V9.heap.size:=⟨_,rfl⟩;have HN:=Zh (Got.of hly hlo1 hhi1);have hs1:=hc.size
  try replace HI:=Zh (HI.out.next hc)
  try replace HG:=Zh (HG.out.next hc)
  replace hB:=zAA hB hc;replace HKp:=Zh (HK.out _ hB);clear hc hly;go_wp2_with fail
  refine hK.out _ _ (HKp.out) (fun hH=>?_);clear hK K;refine Yj (rs:=[5]) (by kernel_rfl) (by simp) ?_;refine Yc (o:=⟨_,_,_,_,_,_⟩) rfl (fun K hK=>?_) Yd
  go_simp
  refine (HC2.out _ hB).mono ?_;rintro e V10 ⟨va,fsa,rfl,hacc,hc⟩
  obtain ⟨lo2,hlo2⟩:∃n,n=V9.heap.size:=⟨_,rfl⟩;obtain ⟨hi2,hhi2⟩:∃n,n=V10.heap.size:=⟨_,rfl⟩;obtain ⟨T,q,rfl,ht1,hq1,hq2,hrow⟩:=hacc.row HP.out;have ht2:=hrow.lt;have HI:Hid (zPg lo2 hi2 T V10 f.r):=⟨by omega,by omega,by omega,hrow.sub (by omega) (fun b hb=>⟨by omega,by omega,hb.2.2⟩)⟩;have hs2:=hc.size
  try replace HN:=Zh (HN.out.next hc)
  try replace HG:=Zh (HG.out.next hc)
  replace hB:=zAA hB hc;replace HKp:=Zh (HK.out _ hB);clear hc hacc hrow;go_wp2_with fail
  refine hK.out _ _ (HKp.out) (fun hH=>?_);clear hK K;refine tk (i:=6) (oi:=⟨_,_,_,_,_,_⟩) (v:=?_) rfl (by rfl) ?_ hH ?_;rotate_left
  ·(intro w hSw;obtain ⟨p0,p1,p2⟩:=Blk.cells3 hSw;go_simp;try (with_reducible rfl))
  simp only [Act.put,sT,sZ,sS];refine Yj (rs:=[8]) (by kernel_rfl) (by simp) ?_;refine Yc (o:=⟨_,_,_,_,_,_⟩) rfl (fun K hK=>?_) Yd;obtain ⟨r0,r1,r2⟩:=HG.out.cells3;have f0:=HG.out.frozen 0;have f1:=HG.out.frozen 1;have f2:=HG.out.frozen 2
  go_simp
  clear r0 r1 r2 f0 f1 f2;have hgg:W0.heap.size<=Wd.heap.size:=by omega
  have HG2:=Zh (HG.out.set3 (.slice none 0 0) (.slice NA f.a.length nc) (.slice (some ⟨T,0,none⟩) f.r.length q));have hbe:=zAG hB hgg (.slice none 0 0) (.slice NA f.a.length nc) (.slice (some ⟨T,0,none⟩) f.r.length q);have hne:Wd.heap.size<lo2\/hi2<=Wd.heap.size:=by omega
  have hne1:Wd.heap.size<lo1\/hi1<=Wd.heap.size:=by omega
  have hmv:∀b,b≠Wd.heap.size->(((V10.setCell ⟨Wd.heap.size,0,none⟩ (.slice none 0 0)).setCell ⟨Wd.heap.size,1,none⟩ (.slice NA f.a.length nc)).setCell ⟨Wd.heap.size,2,none⟩ (.slice (some ⟨T,0,none⟩) f.r.length q)).heap[b]? = V10.heap[b]?:=fun b hb=>(Yl _ _ _ _ hb).trans ((Yl _ _ _ _ hb).trans (Yl _ _ _ _ hb))
  have hse:(((V10.setCell ⟨Wd.heap.size,0,none⟩ (.slice none 0 0)).setCell ⟨Wd.heap.size,1,none⟩ (.slice NA f.a.length nc)).setCell ⟨Wd.heap.size,2,none⟩ (.slice (some ⟨T,0,none⟩) f.r.length q)).heap.size=V10.heap.size:=by simp [World.setCell]
  have hKe:=(hmv w.heap.size (by omega)).trans HKp.out;generalize (((V10.setCell ⟨Wd.heap.size,0,none⟩ (.slice none 0 0)).setCell ⟨Wd.heap.size,1,none⟩ (.slice NA f.a.length nc)).setCell ⟨Wd.heap.size,2,none⟩ (.slice (some ⟨T,0,none⟩) f.r.length q))=WE at *;replace HKp:=Zh hKe;clear hKe;refine hK.out _ _ (HKp.out) (fun hH=>?_);clear hK K;refine wpAnyH_done (by kernel_rfl) ?_ _;go_wp2_with fail
  go_meet
  have hi:=HI.out;have hn:=HN.out;have hl:=hi.le;have hl1:=hn.le;have hr:=hi.r;have hl2:=hi.l;refine ⟨_,T,NA,nc,q,rfl,HG2.out,hgg,by omega,by omega,by omega,hq1,hq2,?_,?_,hbe⟩
  ·exact (hn.on.move (fun b hb=>hmv b (by omega))).sub (by omega) (fun b hb=>⟨by omega,by omega,by omega,by omega⟩)
  ·exact (hi.row.move (hmv T (by omega)) (fun b hb=>hmv b (by omega))).sub (by omega) (fun b hb=>⟨by omega,by omega,by omega,by omega⟩)
 case rest=>
  obtain ⟨g,T,B,d,q,rfl,hm⟩:=hcut;have HM:=Zh hm;have hbw:=zAA HB0.out hm.b;have kx2:=kx.next hm.b;have HBW:=Zh hbw;have HR0:=Zh (HKR.out.next hm.b);have hg0:=hm.g0;have hG:=hm.blk;have hgl:=hG.lt;have hwl:=hm.b.size;clear hm hbw p0 p1 p2 kx HC1 HC2 HKR;have HG0:=Zh hG;obtain ⟨p0,p1,p2⟩:=kx2.cells3;have HKX:=Zh kx2;clear kx2 hG;go_wp2_with fail
  clear p0 p1 p2
  go_loopw [16] (fun i wr=>∃ (k:Nat) (v:Value) (fs:List (List Value)),k<=xn/\i=.int .i64 k/\Hid (Acc 41 3 RD wc.heap.size wc.heap.size wr v fs (f.c.take k))/\Hid (Blk wr g 26 #[v,.slice B f.a.length d,.slice (some ⟨T,0,none⟩) f.r.length q])/\Hid (KR g wc wr)) (fun i _=>xn - (intOf i).toNat)
  case atStart=>exact ⟨0,_,[],by omega,rfl,Acc.nil _ _ _ (Ya _) _,HG0.out,KR.refl _ _⟩
  case round=>
   obtain ⟨k,v,fs,hk,rfl,HA,HG,HK⟩:=hrel;by_cases hlt:k<xn
   ·obtain ⟨b,off,x,us,rfl,hbl,hd,hk1,hR,hc⟩:=HX1.out.get hlt
    have HBd:=Zh (HX.out.c x (Yk hd));have HT:Hid (f.c.take (k+1)=f.c.take k++[x]):=by unfold Hid;rw [List.take_add_one,hd];rfl
    obtain ⟨A1,n1,c1,rfl,hs1⟩:=hR;have hbr:=HBW.out.trans (HK.out.below (B:=w.heap.size) (by omega) (by omega));have q0:=(hbr.cell (p:=⟨b,off+k*3,none⟩) hbl).trans (hc 0 _ rfl);have q1:=(hbr.cell (p:=⟨b,off+k*3+1,none⟩) hbl).trans (hc 1 _ rfl);have q2:=(hbr.cell (p:=⟨b,off+k*3+2,none⟩) hbl).trans (hc 2 _ rfl);have hb1:=zAE wr (.cells #[.bool x.neg,.slice A1 n1 c1,.int .i64 x.e] 41);have H1:=Zh (fun W (hW:Below (wr.alloc (.cells #[.bool x.neg,.slice A1 n1 c1,.int .i64 x.e] 41)).heap.size (wr.alloc (.cells #[.bool x.neg,.slice A1 n1 c1,.int .i64 x.e] 41)) W)=>zCm [.bool x.neg,.slice A1 n1 c1,.int .i64 x.e] x W ⟨A1,n1,c1,rfl,(hs1.below (zAt hbr hb1 (Ya _))).below hW⟩ HBd.out);have hkx:=Blk.new wr 41 #[.bool x.neg,.slice A1 n1 c1,.int .i64 x.e];have HKd:Hid (∀V,Below (wr.alloc (.cells #[.bool x.neg,.slice A1 n1 c1,.int .i64 x.e] 41)).heap.size (wr.alloc (.cells #[.bool x.neg,.slice A1 n1 c1,.int .i64 x.e] 41)) V->(fun W=>Blk W wr.heap.size 41 #[.bool x.neg,.slice A1 n1 c1,.int .i64 x.e]) V):=fun V hV=>hkx.next hV
    have HB1:=Zh hb1;have hz1:(wr.alloc (.cells #[.bool x.neg,.slice A1 n1 c1,.int .i64 x.e] 41)).heap.size=wr.heap.size+1:=by simp
    have hz2:=Ys hz1;have hz3:=Ys hz1.symm;clear hz1;have hwr:=HK.out.size;clear hc hk1 hd hs1 hb1 hkx hbr;go_wp2_with fail
    clear q0 q1 q2;generalize wr.alloc (.cells #[.bool x.neg,.slice A1 n1 c1,.int .i64 x.e] 41)=W1 at *;have hB:=zBw W1;have hsd1:W1.drew.heap.size<=W1.heap.size:=Ya _;have hsd2:W1.heap.size<=W1.drew.heap.size:=Ya _;have HKp:=Zh (HKd.out _ hB);have HG1:=Zh (HG.out.next (zAA HB1.out hB));have HA1:=Zh (HA.out.keep (zAA HB1.out hB).size (fun b _ hb=>(zAA HB1.out hB).block b hb));have HQ:=Zh ((HK.out.trans (KR.of HB1.out)).trans (KR.of hB));have hown:=fun o ho=>(HA.out.own.lt o ho).2
    have HOWN:=Zh hown;clear hown;refine wp_region_held_drew (S:=(fun W=>Blk W wr.heap.size 41 #[.bool x.neg,.slice A1 n1 c1,.int .i64 x.e])) (by kernel_rfl) (HKp.out) (fun hH=>?_);generalize W1.drew=Wd at *;refine tk (i:=0) (oi:=⟨_,_,_,_,_,_⟩) (v:=?_) rfl (by rfl) ?_ hH ?_;rotate_left
    ·(intro w hSw;obtain ⟨p0,p1,p2⟩:=Blk.cells3 hSw;go_simp;try (with_reducible rfl))
    simp only [Act.put,sT,sZ,sS];refine tk (i:=2) (oi:=⟨_,_,_,_,_,_⟩) (v:=?_) rfl (by rfl) ?_ hH ?_;rotate_left
    ·(intro w hSw;obtain ⟨p0,p1,p2⟩:=Blk.cells3 hSw;go_simp;try (with_reducible rfl))
    simp only [Act.put,sT,sZ,sS];refine Yj (rs:=[1,3]) (by kernel_rfl) (by simp) ?_;refine Yc (o:=⟨_,_,_,_,_,_⟩) rfl (fun K hK=>?_) ?_
    ·obtain ⟨r0,r1,r2⟩:=HG1.out.cells3
     go_simp
     clear r0 r1 r2;refine hK.out _ _ (HKp.out) (fun hH=>?_);clear hK K;refine Yj (rs:=[3]) (by kernel_rfl) (by simp) ?_;refine Yc (o:=⟨_,_,_,_,_,_⟩) rfl (fun K hK=>?_) Yd
     go_simp
     refine (H1.out _ hB).mono ?_;rintro e V2 ⟨NA,nn,nc,rfl,hly,hc⟩
     obtain ⟨lo1,hlo1⟩:∃n,n=Wd.heap.size:=⟨_,rfl⟩;obtain ⟨hi1,hhi1⟩:∃n,n=V2.heap.size:=⟨_,rfl⟩;have HN:=Zh (Got.of hly hlo1 hhi1);have hs1:=hc.size;replace HG1:=Zh (HG1.out.next hc);replace HA1:=Zh (HA1.out.keep hc.size (fun b _ hb=>hc.block b hb));replace HQ:=Zh (HQ.out.trans (KR.of hc));replace hB:=zAA hB hc;replace HKp:=Zh (HKd.out _ hB);clear hc hly;go_wp2_with fail
     refine hK.out _ _ (HKp.out) (fun hH=>?_);clear hK K;refine Yj (rs:=[4]) (by kernel_rfl) (by simp) ?_;refine Yc (o:=⟨_,_,_,_,_,_⟩) rfl (fun K hK=>?_) Yd
     go_simp
     have hges1:(V2.alloc (.cells #[.bool x.neg,.slice NA nn nc,.int .i64 x.e] 41)).heap.size<=V2.heap.size+1:=by simp
     have hges2:V2.heap.size+1<=(V2.alloc (.cells #[.bool x.neg,.slice NA nn nc,.int .i64 x.e] 41)).heap.size:=by simp
     have HNB:Hid (Blk (V2.alloc (.cells #[.bool x.neg,.slice NA nn nc,.int .i64 x.e] 41)) V2.heap.size 41 #[.bool x.neg,.slice NA nn nc,.int .i64 x.e]):=Blk.new _ _ _;have hc:=zAE V2 (.cells #[.bool x.neg,.slice NA nn nc,.int .i64 x.e] 41);replace HN:=Zh (HN.out.next hc);replace HG1:=Zh (HG1.out.next hc);replace HA1:=Zh (HA1.out.keep hc.size (fun b _ hb=>hc.block b hb));replace HQ:=Zh (HQ.out.trans (KR.of hc));replace hB:=zAA hB hc;replace HKp:=Zh (HKd.out _ hB);clear hc;generalize (V2.alloc (.cells #[.bool x.neg,.slice NA nn nc,.int .i64 x.e] 41))=Y1 at *;refine hK.out _ _ (HKp.out) (fun hH=>?_);clear hK K;refine Yj (rs:=[5]) (by kernel_rfl) (by simp) ?_;refine Yc (o:=⟨_,_,_,_,_,_⟩) rfl (fun K hK=>?_) Yd;have HOW:Hid (∀o,_=some o->o<lo1\/hi1<=o):=fun o ho=>.inl (by have:=HOWN.out o ho;omega)
     have hfl:fs.length<=1000:=by have:=HA.out.len;rw [Yr] at this;omega
     have hnl:=HN.out.le;have hqs:=HQ.out.size;refine zGL rfl _ _ 22 rfl 41 3 40 _ zQF rfl (by omega) (by omega) Tryz.underlying22 wc.heap.size wc.heap.size _ fs (f.c.take k) rfl HA1.out ⟨V2.heap.size,0,none⟩ 1 [.bool x.neg,.slice NA nn nc,.int .i64 x.e] x rfl rfl ?c1 ?c2 ?c3 ?c4 lo1 hi1 ?c5 ?c6 HOW.out ?c7 ?_
     case c1=>
      intro j u hj;rw [zEM,Blk.cell HNB.out]
      simpa using hj
     case c2=>intro u hu;simp at hu;rcases hu with rfl | rfl | rfl <;> rfl
     case c3=>omega
     case c4=>omega
     case c5=>omega
     case c6=>omega
     case c7=>exact fun W h1 h2=>⟨NA,nn,nc,rfl,HN.out.on W h1 (fun b hb=>h2 b hb.1 hb.2.1)⟩
     intro v' w3 hacc hb3 hg3;have HA3:=Zh hacc;have hs3:=hb3.size;have HKe:=Zh ((hg3.block wr.heap.size (by omega) (fun e=>by have:=HOWN.out _ e.symm;omega)).trans HKp.out);have HG3:=Zh ((hg3.block g (by omega) (fun e=>by have:=(HA1.out.own.lt _ e.symm).1;omega)).trans HG1.out);have HQ3:=Zh (HQ.out.thenB hb3);clear HKp;have HKp:=HKe;clear hacc hb3 hg3 HKe;refine hK.out _ _ (HKp.out) (fun hH=>?_);clear hK K;refine tk (i:=6) (oi:=⟨_,_,_,_,_,_⟩) (v:=?_) rfl (by rfl) ?_ hH ?_;rotate_left
     ·(intro w hSw;obtain ⟨p0,p1,p2⟩:=Blk.cells3 hSw;go_simp;try (with_reducible rfl))
     simp only [Act.put,sT,sZ,sS];refine Yj (rs:=[7]) (by kernel_rfl) (by simp) ?_;refine Yc (o:=⟨_,_,_,_,_,_⟩) rfl (fun K hK=>?_) Yd;obtain ⟨vA,vn,vc,rfl⟩:=zED HA3.out.own;have hG3:Blk w3 g _ _:=HG3.out;obtain ⟨r0,r1,r2⟩:=hG3.cells3;have f0:=hG3.frozen 0
     go_simp
     clear r0 r1 r2 f0;have HG4:Hid (Blk (w3.setCell ⟨g,0,none⟩ (.slice vA vn vc)) g 26 #[.slice vA vn vc,.slice B f.a.length d,.slice (some ⟨T,0,none⟩) f.r.length q]):=hG3.set_ 0 (.slice vA vn vc);have HA4:=Zh (HA3.out.keep (w':=w3.setCell ⟨g,0,none⟩ (.slice vA vn vc)) (by simp [World.setCell]) (fun b hb _=>Yl _ _ _ _ (by show b≠g;omega)));have HQ4:=Zh (HQ3.out.trans (KR.set 0 (.slice vA vn vc)));have HKe:=Zh ((Yl w3 ⟨g,0,none⟩ (.slice vA vn vc) wr.heap.size (by show wr.heap.size≠g;omega)).trans HKp.out);clear HKp hG3;have HKp:=HKe;clear HKe;generalize w3.setCell ⟨g,0,none⟩ (.slice vA vn vc)=w4 at *;refine hK.out _ _ (HKp.out) (fun hH=>?_);clear hK K;refine wpAnyH_done (by kernel_rfl) ?_ _;go_wp2_with fail
     go_roundw
     case rel=>exact ⟨k+1,_,_,by omega,by go_num,by unfold Hid;rw [HT.out];exact HA4.out,HG4,HQ4⟩
     case measure=>simp [intOf];omega
    refine Yc (o:=⟨_,_,_,_,_,_⟩) rfl (fun K hK=>?_) Yd
    go_simp
    refine (H1.out _ hB).mono ?_;rintro e V6 ⟨NA,nn,nc,rfl,hly,hc⟩
    obtain ⟨lo1,hlo1⟩:∃n,n=Wd.heap.size:=⟨_,rfl⟩;obtain ⟨hi1,hhi1⟩:∃n,n=V6.heap.size:=⟨_,rfl⟩;have HN:=Zh (Got.of hly hlo1 hhi1);have hs1:=hc.size;replace HG1:=Zh (HG1.out.next hc);replace HA1:=Zh (HA1.out.keep hc.size (fun b _ hb=>hc.block b hb));replace HQ:=Zh (HQ.out.trans (KR.of hc));replace hB:=zAA hB hc;replace HKp:=Zh (HKd.out _ hB);clear hc hly;go_wp2_with fail
    refine hK.out _ _ (HKp.out) (fun hH=>?_);clear hK K;refine Yj (rs:=[1,4]) (by kernel_rfl) (by simp) ?_;refine Yc (o:=⟨_,_,_,_,_,_⟩) rfl (fun K hK=>?_) ?_
    ·obtain ⟨r0,r1,r2⟩:=HG1.out.cells3
     go_simp
     clear r0 r1 r2;refine hK.out _ _ (HKp.out) (fun hH=>?_);clear hK K;refine Yj (rs:=[4]) (by kernel_rfl) (by simp) ?_;refine Yc (o:=⟨_,_,_,_,_,_⟩) rfl (fun K hK=>?_) Yd
     go_simp
     have hges1:(V6.alloc (.cells #[.bool x.neg,.slice NA nn nc,.int .i64 x.e] 41)).heap.size<=V6.heap.size+1:=by simp
     have hges2:V6.heap.size+1<=(V6.alloc (.cells #[.bool x.neg,.slice NA nn nc,.int .i64 x.e] 41)).heap.size:=by simp
     have HNB:Hid (Blk (V6.alloc (.cells #[.bool x.neg,.slice NA nn nc,.int .i64 x.e] 41)) V6.heap.size 41 #[.bool x.neg,.slice NA nn nc,.int .i64 x.e]):=Blk.new _ _ _;have hc:=zAE V6 (.cells #[.bool x.neg,.slice NA nn nc,.int .i64 x.e] 41);replace HN:=Zh (HN.out.next hc);replace HG1:=Zh (HG1.out.next hc);replace HA1:=Zh (HA1.out.keep hc.size (fun b _ hb=>hc.block b hb));replace HQ:=Zh (HQ.out.trans (KR.of hc));replace hB:=zAA hB hc;replace HKp:=Zh (HKd.out _ hB);clear hc;generalize (V6.alloc (.cells #[.bool x.neg,.slice NA nn nc,.int .i64 x.e] 41))=Y2 at *;refine hK.out _ _ (HKp.out) (fun hH=>?_);clear hK K;refine Yj (rs:=[5]) (by kernel_rfl) (by simp) ?_;refine Yc (o:=⟨_,_,_,_,_,_⟩) rfl (fun K hK=>?_) Yd;have HOW:Hid (∀o,_=some o->o<lo1\/hi1<=o):=fun o ho=>.inl (by have:=HOWN.out o ho;omega)
     have hfl:fs.length<=1000:=by have:=HA.out.len;rw [Yr] at this;omega
     have hnl:=HN.out.le;have hqs:=HQ.out.size;refine zGL rfl _ _ 22 rfl 41 3 40 _ zQF rfl (by omega) (by omega) Tryz.underlying22 wc.heap.size wc.heap.size _ fs (f.c.take k) rfl HA1.out ⟨V6.heap.size,0,none⟩ 1 [.bool x.neg,.slice NA nn nc,.int .i64 x.e] x rfl rfl ?c1 ?c2 ?c3 ?c4 lo1 hi1 ?c5 ?c6 HOW.out ?c7 ?_
     case c1=>
      intro j u hj;rw [zEM,Blk.cell HNB.out]
      simpa using hj
     case c2=>intro u hu;simp at hu;rcases hu with rfl | rfl | rfl <;> rfl
     case c3=>omega
     case c4=>omega
     case c5=>omega
     case c6=>omega
     case c7=>exact fun W h1 h2=>⟨NA,nn,nc,rfl,HN.out.on W h1 (fun b hb=>h2 b hb.1 hb.2.1)⟩
     intro v' w3 hacc hb3 hg3;have HA3:=Zh hacc;have hs3:=hb3.size;have HKe:=Zh ((hg3.block wr.heap.size (by omega) (fun e=>by have:=HOWN.out _ e.symm;omega)).trans HKp.out);have HG3:=Zh ((hg3.block g (by omega) (fun e=>by have:=(HA1.out.own.lt _ e.symm).1;omega)).trans HG1.out);have HQ3:=Zh (HQ.out.thenB hb3);clear HKp;have HKp:=HKe;clear hacc hb3 hg3 HKe;refine hK.out _ _ (HKp.out) (fun hH=>?_);clear hK K;refine tk (i:=6) (oi:=⟨_,_,_,_,_,_⟩) (v:=?_) rfl (by rfl) ?_ hH ?_;rotate_left
     ·(intro w hSw;obtain ⟨p0,p1,p2⟩:=Blk.cells3 hSw;go_simp;try (with_reducible rfl))
     simp only [Act.put,sT,sZ,sS];refine Yj (rs:=[7]) (by kernel_rfl) (by simp) ?_;refine Yc (o:=⟨_,_,_,_,_,_⟩) rfl (fun K hK=>?_) Yd;obtain ⟨vA,vn,vc,rfl⟩:=zED HA3.out.own;have hG3:Blk w3 g _ _:=HG3.out;obtain ⟨r0,r1,r2⟩:=hG3.cells3;have f0:=hG3.frozen 0
     go_simp
     clear r0 r1 r2 f0;have HG4:Hid (Blk (w3.setCell ⟨g,0,none⟩ (.slice vA vn vc)) g 26 #[.slice vA vn vc,.slice B f.a.length d,.slice (some ⟨T,0,none⟩) f.r.length q]):=hG3.set_ 0 (.slice vA vn vc);have HA4:=Zh (HA3.out.keep (w':=w3.setCell ⟨g,0,none⟩ (.slice vA vn vc)) (by simp [World.setCell]) (fun b hb _=>Yl _ _ _ _ (by show b≠g;omega)));have HQ4:=Zh (HQ3.out.trans (KR.set 0 (.slice vA vn vc)));have HKe:=Zh ((Yl w3 ⟨g,0,none⟩ (.slice vA vn vc) wr.heap.size (by show wr.heap.size≠g;omega)).trans HKp.out);clear HKp hG3;have HKp:=HKe;clear HKe;generalize w3.setCell ⟨g,0,none⟩ (.slice vA vn vc)=w4 at *;refine hK.out _ _ (HKp.out) (fun hH=>?_);clear hK K;refine wpAnyH_done (by kernel_rfl) ?_ _;go_wp2_with fail
     go_roundw
     case rel=>exact ⟨k+1,_,_,by omega,by go_num,by unfold Hid;rw [HT.out];exact HA4.out,HG4,HQ4⟩
     case measure=>simp [intOf];omega
    refine Yc (o:=⟨_,_,_,_,_,_⟩) rfl (fun K hK=>?_) Yd
    go_simp
    have hges1:(V6.alloc (.cells #[.bool x.neg,.slice NA nn nc,.int .i64 x.e] 41)).heap.size<=V6.heap.size+1:=by simp
    have hges2:V6.heap.size+1<=(V6.alloc (.cells #[.bool x.neg,.slice NA nn nc,.int .i64 x.e] 41)).heap.size:=by simp
    have HNB:Hid (Blk (V6.alloc (.cells #[.bool x.neg,.slice NA nn nc,.int .i64 x.e] 41)) V6.heap.size 41 #[.bool x.neg,.slice NA nn nc,.int .i64 x.e]):=Blk.new _ _ _;have hc:=zAE V6 (.cells #[.bool x.neg,.slice NA nn nc,.int .i64 x.e] 41);replace HN:=Zh (HN.out.next hc);replace HG1:=Zh (HG1.out.next hc);replace HA1:=Zh (HA1.out.keep hc.size (fun b _ hb=>hc.block b hb));replace HQ:=Zh (HQ.out.trans (KR.of hc));replace hB:=zAA hB hc;replace HKp:=Zh (HKd.out _ hB);clear hc;generalize (V6.alloc (.cells #[.bool x.neg,.slice NA nn nc,.int .i64 x.e] 41))=Y3 at *;refine hK.out _ _ (HKp.out) (fun hH=>?_);clear hK K;refine Yj (rs:=[1]) (by kernel_rfl) (by simp) ?_;refine Yc (o:=⟨_,_,_,_,_,_⟩) rfl (fun K hK=>?_) Yd;obtain ⟨r0,r1,r2⟩:=HG1.out.cells3
    go_simp
    clear r0 r1 r2;refine hK.out _ _ (HKp.out) (fun hH=>?_);clear hK K;refine Yj (rs:=[5]) (by kernel_rfl) (by simp) ?_;refine Yc (o:=⟨_,_,_,_,_,_⟩) rfl (fun K hK=>?_) Yd;have HOW:Hid (∀o,_=some o->o<lo1\/hi1<=o):=fun o ho=>.inl (by have:=HOWN.out o ho;omega)
    have hfl:fs.length<=1000:=by have:=HA.out.len;rw [Yr] at this;omega
    have hnl:=HN.out.le;have hqs:=HQ.out.size;refine zGL rfl _ _ 22 rfl 41 3 40 _ zQF rfl (by omega) (by omega) Tryz.underlying22 wc.heap.size wc.heap.size _ fs (f.c.take k) rfl HA1.out ⟨V6.heap.size,0,none⟩ 1 [.bool x.neg,.slice NA nn nc,.int .i64 x.e] x rfl rfl ?c1 ?c2 ?c3 ?c4 lo1 hi1 ?c5 ?c6 HOW.out ?c7 ?_
    case c1=>
     intro j u hj;rw [zEM,Blk.cell HNB.out]
     simpa using hj
    case c2=>intro u hu;simp at hu;rcases hu with rfl | rfl | rfl <;> rfl
    case c3=>omega
    case c4=>omega
    case c5=>omega
    case c6=>omega
    case c7=>exact fun W h1 h2=>⟨NA,nn,nc,rfl,HN.out.on W h1 (fun b hb=>h2 b hb.1 hb.2.1)⟩
    intro v' w3 hacc hb3 hg3;have HA3:=Zh hacc;have hs3:=hb3.size;have HKe:=Zh ((hg3.block wr.heap.size (by omega) (fun e=>by have:=HOWN.out _ e.symm;omega)).trans HKp.out);have HG3:=Zh ((hg3.block g (by omega) (fun e=>by have:=(HA1.out.own.lt _ e.symm).1;omega)).trans HG1.out);have HQ3:=Zh (HQ.out.thenB hb3);clear HKp;have HKp:=HKe;clear hacc hb3 hg3 HKe;refine hK.out _ _ (HKp.out) (fun hH=>?_);clear hK K;refine tk (i:=6) (oi:=⟨_,_,_,_,_,_⟩) (v:=?_) rfl (by rfl) ?_ hH ?_;rotate_left
    ·(intro w hSw;obtain ⟨p0,p1,p2⟩:=Blk.cells3 hSw;go_simp;try (with_reducible rfl))
    simp only [Act.put,sT,sZ,sS];refine Yj (rs:=[7]) (by kernel_rfl) (by simp) ?_;refine Yc (o:=⟨_,_,_,_,_,_⟩) rfl (fun K hK=>?_) Yd;obtain ⟨vA,vn,vc,rfl⟩:=zED HA3.out.own;have hG3:Blk w3 g _ _:=HG3.out;obtain ⟨r0,r1,r2⟩:=hG3.cells3;have f0:=hG3.frozen 0
    go_simp
    clear r0 r1 r2 f0;have HG4:Hid (Blk (w3.setCell ⟨g,0,none⟩ (.slice vA vn vc)) g 26 #[.slice vA vn vc,.slice B f.a.length d,.slice (some ⟨T,0,none⟩) f.r.length q]):=hG3.set_ 0 (.slice vA vn vc);have HA4:=Zh (HA3.out.keep (w':=w3.setCell ⟨g,0,none⟩ (.slice vA vn vc)) (by simp [World.setCell]) (fun b hb _=>Yl _ _ _ _ (by show b≠g;omega)));have HQ4:=Zh (HQ3.out.trans (KR.set 0 (.slice vA vn vc)));have HKe:=Zh ((Yl w3 ⟨g,0,none⟩ (.slice vA vn vc) wr.heap.size (by show wr.heap.size≠g;omega)).trans HKp.out);clear HKp hG3;have HKp:=HKe;clear HKe;generalize w3.setCell ⟨g,0,none⟩ (.slice vA vn vc)=w4 at *;refine hK.out _ _ (HKp.out) (fun hH=>?_);clear hK K;refine wpAnyH_done (by kernel_rfl) ?_ _;go_wp2_with fail
    go_roundw
    case rel=>exact ⟨k+1,_,_,by omega,by go_num,by unfold Hid;rw [HT.out];exact HA4.out,HG4,HQ4⟩
    case measure=>simp [intOf];omega
   ·obtain rfl:k=xn:=by omega
    have hmn:f.c.take k=f.c:=Xd (by rw [HL1.out];exact Ya _);rw [hmn] at HA;obtain ⟨A3,c3,rfl,hly⟩:=HA.out.ly;have HLY:=Zh hly;have hkr:=HK.out.blk HR0.out (by omega);obtain ⟨r0,r1,r2⟩:=HG.out.cells3;obtain ⟨y0,y1,y2⟩:=hkr.cells3;have f0:=hkr.frozen 0;have f1:=hkr.frozen 1;have f2:=hkr.frozen 2;have HRR:=Zh hkr;have hwr:=HK.out.size;clear hly hkr;go_wp2_with fail
    refine Yn (zeN Tryz.results91 rfl (HRR.out.set3 _ _ _)) rfl ?_;have hm:=HM.out;have t0:=hm.t0;have tl:=hm.tl;have tne:=hm.ne;have hfin:∀b,w.heap.size+2<=b->(((wr.setCell ⟨w.heap.size+1,0,none⟩ (.slice A3 f.c.length c3)).setCell ⟨w.heap.size+1,1,none⟩ (.slice B f.a.length d)).setCell ⟨w.heap.size+1,2,none⟩ (.slice (some ⟨T,0,none⟩) f.r.length q)).heap[b]? = wr.heap[b]?:=fun b hb=>
     (Yl _ _ _ _ (by show b≠w.heap.size+1;omega)).trans ((Yl _ _ _ _ (by show b≠w.heap.size+1;omega)).trans (Yl _ _ _ _ (by show b≠w.heap.size+1;omega)))
    have hfs:(((wr.setCell ⟨w.heap.size+1,0,none⟩ (.slice A3 f.c.length c3)).setCell ⟨w.heap.size+1,1,none⟩ (.slice B f.a.length d)).setCell ⟨w.heap.size+1,2,none⟩ (.slice (some ⟨T,0,none⟩) f.r.length q)).heap.size=wr.heap.size:=by simp [World.setCell]
    have HFIN:=Zh hfin;have hbe:=zAG (HBW.out.trans (HK.out.below (B:=w.heap.size) (by omega) (by omega))) (show w.heap.size<=w.heap.size+1 by omega) (.slice A3 f.c.length c3) (.slice B f.a.length d) (.slice (some ⟨T,0,none⟩) f.r.length q);clear hfin;generalize (((wr.setCell ⟨w.heap.size+1,0,none⟩ (.slice A3 f.c.length c3)).setCell ⟨w.heap.size+1,1,none⟩ (.slice B f.a.length d)).setCell ⟨w.heap.size+1,2,none⟩ (.slice (some ⟨T,0,none⟩) f.r.length q))=WE at *;have hmove:∀b,W0.heap.size<=b/\b<wc.heap.size/\b≠T/\b≠g->WE.heap[b]? = wc.heap[b]?:=fun b hb=>(HFIN.out b (by omega)).trans (HK.out.block b hb.2.1 hb.2.2.2)
    refine ⟨A3,c3,B,d,T,q,rfl,by omega,by omega,hm.q1,hm.q2,⟨Ya _,?_⟩,⟨Ya _,by omega,by omega,?_⟩,hbe⟩
    ·have e1:=(hm.a.move hmove).sub (E':=WE.heap.size) (F':=fun b=>w.heap.size<=b/\b<WE.heap.size/\b≠T) (by omega) (fun b hb=>⟨by omega,by omega,hb.2.2.1⟩)
     have e2:=HLY.out;exact fun W h1 h2=>⟨e2 W (by omega) (fun b b1 b2=>(h2 b ⟨by omega,by omega,by omega⟩).trans (HFIN.out b (by omega))),e1 W h1 h2⟩
    ·exact (hm.r.move ((HFIN.out T (by omega)).trans (HK.out.block T tl tne)) hmove).sub (by omega) (fun b hb=>⟨by omega,by omega,hb.2.2.1⟩)
end Go.Proofs.YtchkfjgcbbbffaaGreatDoor
end
