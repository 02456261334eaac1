/- Bundle 13: what the law's walk stands on: C13, C14, C16, S6. -/
import Derived.Deep.DeepCutAuto
import Derived.Test.YtchkfjgcbbbffaaGreatDoorZ11
import Derived.Test.YtchkfjgcbbbffaaGreatDoorZ12
set_option maxRecDepth 100000
set_option maxHeartbeats 20000000
set_option linter.all false
noncomputable section
namespace Go.Proofs.YtchkfjgcbbbffaaGreatDoor
open Go.RowKit Pl Go.Shelf
def cz (d d':Dy):Bool:=decide (zCH d d' = 0)
def enN (l l':List Dy):Bool:=eqF cz l l'
def enR (m m':List (List Dy)):Bool:=eqF enN m m'
def ins (x y:Iv):Bool:=ivV x && ivV y && (y.all || (!x.all && decide (zCH y.lo x.lo<=0) && decide (zCH x.hi y.hi<=0)))
def ivE (x y:Iv):Bool:=ins x y && ins y x
def enF (f g:Fr):Bool:=enN f.c g.c && enR f.a g.a && eqF ivE f.r g.r
def bxE (a b:List Iv):Bool:=zEO a && zEO b && decide (a.length=b.length) && eqF ivE a b
def lkE (x y:Lk):Bool:=cz x.h y.h && bxE x.tube y.tube && enF x.e y.e && enR x.v y.v
def ctE (x y:Ct):Bool:=ctV x && ctV y && decide (x.prec=y.prec) && decide (x.order=y.order) && enF x.start y.start && eqF lkE x.links y.links
theorem zHZ (vs us:List Value) (x y:Dy) (w:World) (h:RD w vs x) (h':RD w us y) (hx:Bd x) (hy:Bd y):Calls Tryz.prog 244 (#[.agg vs.toArray,.agg us.toArray]++#[]) w (zBW (cz x y) w):=by
 rw [Array.append_empty];obtain ⟨aA,asz,ac,rfl,ha⟩:=h;obtain ⟨an,al,ae⟩:=x;dsimp only at ha ⊢;have ra:RD w [.bool an,.slice aA asz ac,.int .i64 ae] ⟨an,al,ae⟩:=⟨aA,asz,ac,rfl,ha⟩;have Ra:=Zh (fun W hb=>zAQ w W _ _ ra hb);clear ha ra;obtain ⟨bA,bsz,bc,rfl,hb⟩:=h';obtain ⟨bn,bl,be⟩:=y;dsimp only at hb ⊢;have rb:RD w [.bool bn,.slice bA bsz bc,.int .i64 be] ⟨bn,bl,be⟩:=⟨bA,bsz,bc,rfl,hb⟩;have Rb:=Zh (fun W hb=>zAQ w W _ _ rb hb);clear hb rb;have HV:Hid (cz ⟨an,al,ae⟩ ⟨bn,bl,be⟩=decide (zCH ⟨an,al,ae⟩ ⟨bn,bl,be⟩=0)):=rfl;have HX:=Zh hx;have HY:=Zh hy;clear hx hy;have hb0:=zAA (zAE w (.cells #[.bool an,.slice aA asz ac,.int .i64 ae] 41)) (zAE (w.alloc (.cells #[.bool an,.slice aA asz ac,.int .i64 ae] 41)) (.cells #[.bool bn,.slice bA bsz bc,.int .i64 be] 41));have ka:=(Blk.new w 41 #[.bool an,.slice aA asz ac,.int .i64 ae]).next (zAE (w.alloc (.cells #[.bool an,.slice aA asz ac,.int .i64 ae] 41)) (.cells #[.bool bn,.slice bA bsz bc,.int .i64 be] 41));have kb:Blk ((w.alloc (.cells #[.bool an,.slice aA asz ac,.int .i64 ae] 41)).alloc (.cells #[.bool bn,.slice bA bsz bc,.int .i64 be] 41)) (w.heap.size+1) 41 #[.bool bn,.slice bA bsz bc,.int .i64 be]:=Blk.newAt _ _ _ (by simp);go_enter Tryz.func244,Tryz.ntmps244
 go_wp2_with fail
 generalize ((w.alloc (.cells #[.bool an,.slice aA asz ac,.int .i64 ae] 41)).alloc (.cells #[.bool bn,.slice bA bsz bc,.int .i64 be] 41))=W0 at *;clear ka kb;refine (zIW _ _ _ _ _ (Ra.out _ hb0) (Rb.out _ hb0) HX.out HY.out).mono ?_;rintro e w1 ⟨rfl,hb1x⟩
 replace hb0:=zAA hb0 hb1x;clear hb1x;generalize zCH ⟨an,al,ae⟩ ⟨bn,bl,be⟩=r at *;go_wp2_with fail
 go_ret;exact ⟨by rw [HV.out];rfl,hb0⟩
theorem zEw (A B:Option Addr) (n c m d:Nat) (l l':List Dy) (w:World) (h:Sl 3 RD w A n c l) (h':Sl 3 RD w B m d l') (hx:∀d∈l,Bd d) (hy:∀d∈l',Bd d):Calls Tryz.prog 179 #[.slice A n c,.slice B m d] w (zBW (enN l l') w):=by
 have HC:=Zh (show Calls _ _ _ _ (zBW (enN l l') w) from zKs cz 244 #[] A B n c m d l l' w h h' (zCQ Tryz.func244 (by kernel_rfl) rfl) (fun W vs us x y _ hm hm' hr hr'=>zHZ vs us x y W hr hr' (hx x hm) (hy y hm')));clear h h' hx hy;go_enter Tryz.func179,Tryz.ntmps179
 go_wp2_with fail
 refine HC.out.mono ?_;rintro e w1 ⟨rfl,hb0⟩
 generalize enN l l' = r at *;go_wp2_with fail
 go_ret;exact ⟨rfl,hb0⟩
theorem zKr (vs us:List Value) (x y:List Dy) (w:World) (h:RM w vs x) (h':RM w us y) (hx:∀d∈x,Bd d) (hy:∀d∈y,Bd d):Calls Tryz.prog 179 (#[(vs[0]?).getD undef,(us[0]?).getD undef]++#[]) w (zBW (enN x y) w):=by
 rw [Array.append_empty];obtain ⟨A,n,c,rfl,hs⟩:=h;obtain ⟨B,m,d,rfl,hs'⟩:=h';exact zEw A B n c m d x y w hs hs' hx hy
theorem zHt (A B:Option Addr) (n c m d:Nat) (l l':List (List Dy)) (w:World) (h:Sl 1 RM w A n c l) (h':Sl 1 RM w B m d l') (hx:∀a∈l,∀d∈a,Bd d) (hy:∀a∈l',∀d∈a,Bd d):Calls Tryz.prog 109 #[.slice A n c,.slice B m d] w (zBW (enR l l') w):=by
 have HC:=Zh (show Calls _ _ _ _ (zBW (enR l l') w) from zKv enN 179 #[] A B n c m d l l' w h h' (zCQ Tryz.func179 (by kernel_rfl) rfl) (fun W vs us x y _ hm hm' hr hr'=>zKr vs us x y W hr hr' (hx x hm) (hy y hm')));clear h h' hx hy;go_enter Tryz.func109,Tryz.ntmps109
 go_wp2_with fail
 refine HC.out.mono ?_;rintro e w1 ⟨rfl,hb0⟩
 generalize enR l l' = r at *;go_wp2_with fail
 go_ret;exact ⟨rfl,hb0⟩
theorem zHy (vs us:List Value) (x y:Iv) (w:World) (h:RI w vs x) (h':RI w us y) (hx:BdI x) (hy:BdI y):Calls Tryz.prog 66 #[.agg vs.toArray,.agg us.toArray] w (zBW (ins x y) w):=by
 obtain ⟨xA,xs,xc,xB,xm,xd,rfl,hx1,hx2⟩:=h;obtain ⟨⟨xln,xll,xle⟩,⟨xun,xul,xue⟩,xa⟩:=x;dsimp only at hx1 hx2 ⊢;have rx:RI w [.bool xln,.slice xA xs xc,.int .i64 xle,.bool xun,.slice xB xm xd,.int .i64 xue,.bool xa] ⟨⟨xln,xll,xle⟩,⟨xun,xul,xue⟩,xa⟩:=⟨xA,xs,xc,xB,xm,xd,rfl,hx1,hx2⟩;have rx1:RD w [.bool xln,.slice xA xs xc,.int .i64 xle] ⟨xln,xll,xle⟩:=⟨xA,xs,xc,rfl,hx1⟩;have rx2:RD w [.bool xun,.slice xB xm xd,.int .i64 xue] ⟨xun,xul,xue⟩:=⟨xB,xm,xd,rfl,hx2⟩;have Rx:=Zh (fun W hb=>zAX w W _ _ rx hb);have Rx1:=Zh (fun W hb=>zAQ w W _ _ rx1 hb);have Rx2:=Zh (fun W hb=>zAQ w W _ _ rx2 hb);clear hx1 hx2 rx rx1 rx2;obtain ⟨yA,ys,yc,yB,ym,yd,rfl,hy1,hy2⟩:=h';obtain ⟨⟨yln,yll,yle⟩,⟨yun,yul,yue⟩,ya⟩:=y;dsimp only at hy1 hy2 ⊢;have ry:RI w [.bool yln,.slice yA ys yc,.int .i64 yle,.bool yun,.slice yB ym yd,.int .i64 yue,.bool ya] ⟨⟨yln,yll,yle⟩,⟨yun,yul,yue⟩,ya⟩:=⟨yA,ys,yc,yB,ym,yd,rfl,hy1,hy2⟩;have ry1:RD w [.bool yln,.slice yA ys yc,.int .i64 yle] ⟨yln,yll,yle⟩:=⟨yA,ys,yc,rfl,hy1⟩;have ry2:RD w [.bool yun,.slice yB ym yd,.int .i64 yue] ⟨yun,yul,yue⟩:=⟨yB,ym,yd,rfl,hy2⟩;have Ry:=Zh (fun W hb=>zAX w W _ _ ry hb);have Ry1:=Zh (fun W hb=>zAQ w W _ _ ry1 hb);have Ry2:=Zh (fun W hb=>zAQ w W _ _ ry2 hb);clear hy1 hy2 ry ry1 ry2;have HV:Hid (ins ⟨⟨xln,xll,xle⟩,⟨xun,xul,xue⟩,xa⟩ ⟨⟨yln,yll,yle⟩,⟨yun,yul,yue⟩,ya⟩=(ivV ⟨⟨xln,xll,xle⟩,⟨xun,xul,xue⟩,xa⟩ && ivV ⟨⟨yln,yll,yle⟩,⟨yun,yul,yue⟩,ya⟩ && (ya || (!xa && decide (zCH ⟨yln,yll,yle⟩ ⟨xln,xll,xle⟩<=0) && decide (zCH ⟨xun,xul,xue⟩ ⟨yun,yul,yue⟩<=0))))):=rfl;have HX:=Zh hx;have HY:=Zh hy;clear hx hy;have hb0:=zAA (zAE w (.cells #[.bool xln,.slice xA xs xc,.int .i64 xle,.bool xun,.slice xB xm xd,.int .i64 xue,.bool xa] 43)) (zAE (w.alloc (.cells #[.bool xln,.slice xA xs xc,.int .i64 xle,.bool xun,.slice xB xm xd,.int .i64 xue,.bool xa] 43)) (.cells #[.bool yln,.slice yA ys yc,.int .i64 yle,.bool yun,.slice yB ym yd,.int .i64 yue,.bool ya] 43));have ka:=(Blk.new w 43 #[.bool xln,.slice xA xs xc,.int .i64 xle,.bool xun,.slice xB xm xd,.int .i64 xue,.bool xa]).next (zAE (w.alloc (.cells #[.bool xln,.slice xA xs xc,.int .i64 xle,.bool xun,.slice xB xm xd,.int .i64 xue,.bool xa] 43)) (.cells #[.bool yln,.slice yA ys yc,.int .i64 yle,.bool yun,.slice yB ym yd,.int .i64 yue,.bool ya] 43));have kb:Blk ((w.alloc (.cells #[.bool xln,.slice xA xs xc,.int .i64 xle,.bool xun,.slice xB xm xd,.int .i64 xue,.bool xa] 43)).alloc (.cells #[.bool yln,.slice yA ys yc,.int .i64 yle,.bool yun,.slice yB ym yd,.int .i64 yue,.bool ya] 43)) (w.heap.size+1) 43 #[.bool yln,.slice yA ys yc,.int .i64 yle,.bool yun,.slice yB ym yd,.int .i64 yue,.bool ya]:=Blk.newAt _ _ _ (by simp);go_enter Tryz.func66,Tryz.ntmps66
 go_wp2_with fail
 generalize ((w.alloc (.cells #[.bool xln,.slice xA xs xc,.int .i64 xle,.bool xun,.slice xB xm xd,.int .i64 xue,.bool xa] 43)).alloc (.cells #[.bool yln,.slice yA ys yc,.int .i64 yle,.bool yun,.slice yB ym yd,.int .i64 yue,.bool ya] 43))=W0 at *;refine (zD9 _ _ _ (Rx.out _ hb0) HX.out).mono ?_;rintro e w1 ⟨rfl,hb1x⟩
 replace hb0:=zAA hb0 hb1x;replace ka:=ka.next hb1x;replace kb:=kb.next hb1x;clear hb1x;cases hv1:ivV ⟨⟨xln,xll,xle⟩,⟨xun,xul,xue⟩,xa⟩
 ·rw [hv1] at HV
  clear hv1;go_wp2_with fail
  go_ret;exact ⟨by rw [HV.out];rfl,hb0⟩
 rw [hv1] at HV;clear hv1;obtain ⟨kaq0,kaq1,kaq2,kaq3,kaq4,kaq5,kaq6⟩:=ka.cells7;obtain ⟨kbq0,kbq1,kbq2,kbq3,kbq4,kbq5,kbq6⟩:=kb.cells7;go_wp2_with fail
 refine (zD9 _ _ _ (Ry.out _ hb0) HY.out).mono ?_;rintro e w2 ⟨rfl,hb2x⟩
 clear kaq0 kaq1 kaq2 kaq3 kaq4 kaq5 kaq6 kbq0 kbq1 kbq2 kbq3 kbq4 kbq5 kbq6;replace hb0:=zAA hb0 hb2x;replace ka:=ka.next hb2x;replace kb:=kb.next hb2x;clear hb2x;cases hv1:ivV ⟨⟨yln,yll,yle⟩,⟨yun,yul,yue⟩,ya⟩
 ·rw [hv1] at HV
  clear hv1;go_wp2_with fail
  go_ret;exact ⟨by rw [HV.out];rfl,hb0⟩
 rw [hv1] at HV;clear hv1;cases ya
 ·cases xa
  ·obtain ⟨kaq0,kaq1,kaq2,kaq3,kaq4,kaq5,kaq6⟩:=ka.cells7
   obtain ⟨kbq0,kbq1,kbq2,kbq3,kbq4,kbq5,kbq6⟩:=kb.cells7;go_wp2_with fail
   refine (zIW _ _ _ _ _ (Ry1.out _ hb0) (Rx1.out _ hb0) HY.out.1 HX.out.1).mono ?_;rintro e w3 ⟨rfl,hb3x⟩
   clear kaq0 kaq1 kaq2 kaq3 kaq4 kaq5 kaq6 kbq0 kbq1 kbq2 kbq3 kbq4 kbq5 kbq6;replace hb0:=zAA hb0 hb3x;replace ka:=ka.next hb3x;replace kb:=kb.next hb3x;clear hb3x;generalize zCH ⟨yln,yll,yle⟩ ⟨xln,xll,xle⟩=r1 at *;cases hv1:decide (r1<=0)
   ·rw [hv1] at HV
    go_wp2_with fail
    go_ret;exact ⟨by rw [HV.out];rfl,hb0⟩
   rw [hv1] at HV;obtain ⟨kaq0,kaq1,kaq2,kaq3,kaq4,kaq5,kaq6⟩:=ka.cells7;obtain ⟨kbq0,kbq1,kbq2,kbq3,kbq4,kbq5,kbq6⟩:=kb.cells7;go_wp2_with fail
   refine (zIW _ _ _ _ _ (Rx2.out _ hb0) (Ry2.out _ hb0) HX.out.2 HY.out.2).mono ?_;rintro e w4 ⟨rfl,hb4x⟩
   clear kaq0 kaq1 kaq2 kaq3 kaq4 kaq5 kaq6 kbq0 kbq1 kbq2 kbq3 kbq4 kbq5 kbq6;replace hb0:=zAA hb0 hb4x;replace ka:=ka.next hb4x;replace kb:=kb.next hb4x;clear hb4x;generalize zCH ⟨xun,xul,xue⟩ ⟨yun,yul,yue⟩=r2 at *;go_wp2_with fail
   go_ret;exact ⟨by rw [HV.out];rfl,hb0⟩
  ·obtain ⟨kaq0,kaq1,kaq2,kaq3,kaq4,kaq5,kaq6⟩:=ka.cells7
   obtain ⟨kbq0,kbq1,kbq2,kbq3,kbq4,kbq5,kbq6⟩:=kb.cells7;go_wp2_with fail
   go_ret;exact ⟨by rw [HV.out];rfl,hb0⟩
 ·obtain ⟨kaq0,kaq1,kaq2,kaq3,kaq4,kaq5,kaq6⟩:=ka.cells7
  obtain ⟨kbq0,kbq1,kbq2,kbq3,kbq4,kbq5,kbq6⟩:=kb.cells7;go_wp2_with fail
  go_ret;exact ⟨by rw [HV.out];rfl,hb0⟩
theorem zK7 (vs us:List Value) (x y:Iv) (w:World) (h:RI w vs x) (h':RI w us y) (hx:BdI x) (hy:BdI y):Calls Tryz.prog 22 (#[.agg vs.toArray,.agg us.toArray]++#[]) w (zBW (ivE x y) w):=by
 rw [Array.append_empty];obtain ⟨xA,xs,xc,xB,xm,xd,rfl,hx1,hx2⟩:=h;obtain ⟨⟨xln,xll,xle⟩,⟨xun,xul,xue⟩,xa⟩:=x;dsimp only at hx1 hx2 ⊢;have rx:RI w [.bool xln,.slice xA xs xc,.int .i64 xle,.bool xun,.slice xB xm xd,.int .i64 xue,.bool xa] ⟨⟨xln,xll,xle⟩,⟨xun,xul,xue⟩,xa⟩:=⟨xA,xs,xc,xB,xm,xd,rfl,hx1,hx2⟩;have rx1:RD w [.bool xln,.slice xA xs xc,.int .i64 xle] ⟨xln,xll,xle⟩:=⟨xA,xs,xc,rfl,hx1⟩;have rx2:RD w [.bool xun,.slice xB xm xd,.int .i64 xue] ⟨xun,xul,xue⟩:=⟨xB,xm,xd,rfl,hx2⟩;have Rx:=Zh (fun W hb=>zAX w W _ _ rx hb);have Rx1:=Zh (fun W hb=>zAQ w W _ _ rx1 hb);have Rx2:=Zh (fun W hb=>zAQ w W _ _ rx2 hb);clear hx1 hx2 rx rx1 rx2;obtain ⟨yA,ys,yc,yB,ym,yd,rfl,hy1,hy2⟩:=h';obtain ⟨⟨yln,yll,yle⟩,⟨yun,yul,yue⟩,ya⟩:=y;dsimp only at hy1 hy2 ⊢;have ry:RI w [.bool yln,.slice yA ys yc,.int .i64 yle,.bool yun,.slice yB ym yd,.int .i64 yue,.bool ya] ⟨⟨yln,yll,yle⟩,⟨yun,yul,yue⟩,ya⟩:=⟨yA,ys,yc,yB,ym,yd,rfl,hy1,hy2⟩;have ry1:RD w [.bool yln,.slice yA ys yc,.int .i64 yle] ⟨yln,yll,yle⟩:=⟨yA,ys,yc,rfl,hy1⟩;have ry2:RD w [.bool yun,.slice yB ym yd,.int .i64 yue] ⟨yun,yul,yue⟩:=⟨yB,ym,yd,rfl,hy2⟩;have Ry:=Zh (fun W hb=>zAX w W _ _ ry hb);have Ry1:=Zh (fun W hb=>zAQ w W _ _ ry1 hb);have Ry2:=Zh (fun W hb=>zAQ w W _ _ ry2 hb);clear hy1 hy2 ry ry1 ry2;have HV:Hid (ivE ⟨⟨xln,xll,xle⟩,⟨xun,xul,xue⟩,xa⟩ ⟨⟨yln,yll,yle⟩,⟨yun,yul,yue⟩,ya⟩=(ins ⟨⟨xln,xll,xle⟩,⟨xun,xul,xue⟩,xa⟩ ⟨⟨yln,yll,yle⟩,⟨yun,yul,yue⟩,ya⟩ && ins ⟨⟨yln,yll,yle⟩,⟨yun,yul,yue⟩,ya⟩ ⟨⟨xln,xll,xle⟩,⟨xun,xul,xue⟩,xa⟩)):=rfl;have HX:=Zh hx;have HY:=Zh hy;clear hx hy;have hb0:=zAA (zAE w (.cells #[.bool xln,.slice xA xs xc,.int .i64 xle,.bool xun,.slice xB xm xd,.int .i64 xue,.bool xa] 43)) (zAE (w.alloc (.cells #[.bool xln,.slice xA xs xc,.int .i64 xle,.bool xun,.slice xB xm xd,.int .i64 xue,.bool xa] 43)) (.cells #[.bool yln,.slice yA ys yc,.int .i64 yle,.bool yun,.slice yB ym yd,.int .i64 yue,.bool ya] 43));have ka:=(Blk.new w 43 #[.bool xln,.slice xA xs xc,.int .i64 xle,.bool xun,.slice xB xm xd,.int .i64 xue,.bool xa]).next (zAE (w.alloc (.cells #[.bool xln,.slice xA xs xc,.int .i64 xle,.bool xun,.slice xB xm xd,.int .i64 xue,.bool xa] 43)) (.cells #[.bool yln,.slice yA ys yc,.int .i64 yle,.bool yun,.slice yB ym yd,.int .i64 yue,.bool ya] 43));have kb:Blk ((w.alloc (.cells #[.bool xln,.slice xA xs xc,.int .i64 xle,.bool xun,.slice xB xm xd,.int .i64 xue,.bool xa] 43)).alloc (.cells #[.bool yln,.slice yA ys yc,.int .i64 yle,.bool yun,.slice yB ym yd,.int .i64 yue,.bool ya] 43)) (w.heap.size+1) 43 #[.bool yln,.slice yA ys yc,.int .i64 yle,.bool yun,.slice yB ym yd,.int .i64 yue,.bool ya]:=Blk.newAt _ _ _ (by simp);go_enter Tryz.func22,Tryz.ntmps22
 go_wp2_with fail
 generalize ((w.alloc (.cells #[.bool xln,.slice xA xs xc,.int .i64 xle,.bool xun,.slice xB xm xd,.int .i64 xue,.bool xa] 43)).alloc (.cells #[.bool yln,.slice yA ys yc,.int .i64 yle,.bool yun,.slice yB ym yd,.int .i64 yue,.bool ya] 43))=W0 at *;refine (zHy _ _ _ _ _ (Rx.out _ hb0) (Ry.out _ hb0) HX.out HY.out).mono ?_;rintro e w1 ⟨rfl,hb1x⟩
 replace hb0:=zAA hb0 hb1x;replace ka:=ka.next hb1x;replace kb:=kb.next hb1x;clear hb1x;cases hv1:ins ⟨⟨xln,xll,xle⟩,⟨xun,xul,xue⟩,xa⟩ ⟨⟨yln,yll,yle⟩,⟨yun,yul,yue⟩,ya⟩
 ·rw [hv1] at HV
  clear hv1;go_wp2_with fail
  go_ret;exact ⟨by rw [HV.out];rfl,hb0⟩
 rw [hv1] at HV;clear hv1;obtain ⟨kaq0,kaq1,kaq2,kaq3,kaq4,kaq5,kaq6⟩:=ka.cells7;obtain ⟨kbq0,kbq1,kbq2,kbq3,kbq4,kbq5,kbq6⟩:=kb.cells7;go_wp2_with fail
 refine (zHy _ _ _ _ _ (Ry.out _ hb0) (Rx.out _ hb0) HY.out HX.out).mono ?_;rintro e w2 ⟨rfl,hb2x⟩
 clear kaq0 kaq1 kaq2 kaq3 kaq4 kaq5 kaq6 kbq0 kbq1 kbq2 kbq3 kbq4 kbq5 kbq6;replace hb0:=zAA hb0 hb2x;replace ka:=ka.next hb2x;replace kb:=kb.next hb2x;clear hb2x;generalize ins ⟨⟨yln,yll,yle⟩,⟨yun,yul,yue⟩,ya⟩ ⟨⟨xln,xll,xle⟩,⟨xun,xul,xue⟩,xa⟩=r at *;go_wp2_with fail
 go_ret;exact ⟨by rw [HV.out];rfl,hb0⟩
theorem zFw (A B:Option Addr) (n c m d:Nat) (l l':List Iv) (w:World) (h:Sl 7 RI w A n c l) (h':Sl 7 RI w B m d l') (hx:∀x∈l,BdI x) (hy:∀x∈l',BdI x):Calls Tryz.prog 21 #[.slice A n c,.slice B m d,.func (.func 22) #[] #[]] w (zBW (eqF ivE l l') w):=
 zKt ivE 22 #[] A B n c m d l l' w h h' (zCQ Tryz.func22 (by kernel_rfl) rfl) (fun W vs us x y _ hm hm' hr hr'=>zK7 vs us x y W hr hr' (hx x hm) (hy y hm'))
theorem zFs (vs us:List Value) (x y:Fr) (w:World) (h:RF w vs x) (h':RF w us y) (hx:BdF x) (hy:BdF y):Calls Tryz.prog 105 #[.agg vs.toArray,.agg us.toArray] w (zBW (enF x y) w):=by
 obtain ⟨xA,xn,xc,xB,xm,xd,xC,xp,xq,rfl,hx1,hx2,hx3⟩:=h;obtain ⟨yA,yn,yc,yB,ym,yd,yC,yp,yq,rfl,hy1,hy2,hy3⟩:=h';have HV:Hid (enF x y=(enN x.c y.c && enR x.a y.a && eqF ivE x.r y.r)):=rfl;have H1:=Zh (fun W hb=>zEw xA yA xn xc yn yc x.c y.c W (hx1.next zAQ hb) (hy1.next zAQ hb) hx.c hy.c);have H2:=Zh (fun W hb=>zHt xB yB xm xd ym yd x.a y.a W (hx2.next zAh hb) (hy2.next zAh hb) hx.a hy.a);have H3:=Zh (fun W hb=>zFw xC yC xp xq yp yq x.r y.r W (hx3.next zAX hb) (hy3.next zAX hb) hx.r hy.r);clear hx1 hx2 hx3 hy1 hy2 hy3 hx hy;generalize enN x.c y.c=b1 at *;generalize enR x.a y.a=b2 at *;generalize eqF ivE x.r y.r=b3 at *;have hb0:=zAA (zAE w (.cells #[.slice xA xn xc,.slice xB xm xd,.slice xC xp xq] 26)) (zAE (w.alloc (.cells #[.slice xA xn xc,.slice xB xm xd,.slice xC xp xq] 26)) (.cells #[.slice yA yn yc,.slice yB ym yd,.slice yC yp yq] 26));have ka:=(Blk.new w 26 #[.slice xA xn xc,.slice xB xm xd,.slice xC xp xq]).next (zAE (w.alloc (.cells #[.slice xA xn xc,.slice xB xm xd,.slice xC xp xq] 26)) (.cells #[.slice yA yn yc,.slice yB ym yd,.slice yC yp yq] 26));have kb:Blk ((w.alloc (.cells #[.slice xA xn xc,.slice xB xm xd,.slice xC xp xq] 26)).alloc (.cells #[.slice yA yn yc,.slice yB ym yd,.slice yC yp yq] 26)) (w.heap.size+1) 26 #[.slice yA yn yc,.slice yB ym yd,.slice yC yp yq]:=Blk.newAt _ _ _ (by simp);go_enter Tryz.func105,Tryz.ntmps105
 go_wp2_with fail
 generalize ((w.alloc (.cells #[.slice xA xn xc,.slice xB xm xd,.slice xC xp xq] 26)).alloc (.cells #[.slice yA yn yc,.slice yB ym yd,.slice yC yp yq] 26))=W0 at *;refine (H1.out _ hb0).mono ?_;rintro e w1 ⟨rfl,hb1x⟩
 replace hb0:=zAA hb0 hb1x;replace ka:=ka.next hb1x;replace kb:=kb.next hb1x;clear hb1x;cases hv1:b1
 ·rw [hv1] at HV
  clear hv1;go_wp2_with fail
  go_ret;exact ⟨by rw [HV.out];rfl,hb0⟩
 rw [hv1] at HV;clear hv1;obtain ⟨kaq0,kaq1,kaq2⟩:=ka.cells3;obtain ⟨kbq0,kbq1,kbq2⟩:=kb.cells3;go_wp2_with fail
 refine (H2.out _ hb0).mono ?_;rintro e w2 ⟨rfl,hb2x⟩
 clear kaq0 kaq1 kaq2 kbq0 kbq1 kbq2;replace hb0:=zAA hb0 hb2x;replace ka:=ka.next hb2x;replace kb:=kb.next hb2x;clear hb2x;cases hv1:b2
 ·rw [hv1] at HV
  clear hv1;go_wp2_with fail
  go_ret;exact ⟨by rw [HV.out];rfl,hb0⟩
 rw [hv1] at HV;clear hv1;obtain ⟨kaq0,kaq1,kaq2⟩:=ka.cells3;obtain ⟨kbq0,kbq1,kbq2⟩:=kb.cells3;go_wp2_with fail
 refine (H3.out _ hb0).mono ?_;rintro e w3 ⟨rfl,hb3x⟩
 clear kaq0 kaq1 kaq2 kbq0 kbq1 kbq2;replace hb0:=zAA hb0 hb3x;replace ka:=ka.next hb3x;replace kb:=kb.next hb3x;clear hb3x;go_wp2_with fail
 go_ret;exact ⟨by rw [HV.out];rfl,hb0⟩
theorem zMg (A B:Option Addr) (n c m d:Nat) (l l':List Iv) (w:World) (h:Sl 7 RI w A n c l) (h':Sl 7 RI w B m d l') (hx:∀x∈l,BdI x) (hy:∀x∈l',BdI x):Calls Tryz.prog 125 #[.slice A n c,.slice B m d] w (zBW (zEO l && zEO l' && decide (l.length=l'.length)) w):=by
 have HV:Hid ((zEO l && zEO l' && decide (l.length=l'.length))=(zEO l && zEO l' && decide (n=m))):=by unfold Hid;rw [h.len,h'.len]
 have H1:=Zh (fun W hb=>zDh A n c l W (h.next zAX hb) hx);have H2:=Zh (fun W hb=>zDh B m d l' W (h'.next zAX hb) hy);have m1:=h.cap;have m2:=h.max;have m3:=h'.cap;have m4:=h'.max;clear h h' hx hy;have hb0:=Yp w.heap.size w;obtain ⟨b1,h1⟩:∃b1,zEO l=b1:=⟨_,rfl⟩;obtain ⟨b2,h2⟩:∃b2,zEO l' = b2:=⟨_,rfl⟩;have HV2:Hid ((zEO l && zEO l' && decide (l.length=l'.length))=(b1 && b2 && decide (n=m))):=by unfold Hid;rw [HV.out,h1,h2]
 rw [h1] at H1;rw [h2] at H2;clear HV h1 h2;go_enter Tryz.func125,Tryz.ntmps125
 go_wp2_with fail
 refine (H1.out _ hb0).mono ?_;rintro e w1 ⟨rfl,hb1x⟩
 replace hb0:=zAA hb0 hb1x;clear hb1x;cases hv1:b1
 ·rw [hv1] at HV2
  clear hv1;go_wp2_with fail
  go_ret;exact ⟨by rw [HV2.out];rfl,hb0⟩
 rw [hv1] at HV2;clear hv1;go_wp2_with fail
 refine (H2.out _ hb0).mono ?_;rintro e w2 ⟨rfl,hb2x⟩
 replace hb0:=zAA hb0 hb2x;clear hb2x;cases hv1:b2
 ·rw [hv1] at HV2
  clear hv1;go_wp2_with fail
  go_ret;exact ⟨by rw [HV2.out];rfl,hb0⟩
 rw [hv1] at HV2;clear hv1;by_cases hn:n=m
 ·have hn2:((n:Int) == (m:Int))=true:=by rw [hn];simp
  rw [Yf hn] at HV2;clear hn;go_wp2_with fail
  go_ret;exact ⟨by rw [HV2.out];rfl,hb0⟩
 ·have hn2:((n:Int) == (m:Int))=false:=by rw [Xh];omega
  rw [Ye hn] at HV2;clear hn;go_wp2_with fail
  go_ret;exact ⟨by rw [HV2.out];rfl,hb0⟩
theorem zJU (A B:Option Addr) (n c m d:Nat) (l l':List Iv) (w:World) (h:Sl 7 RI w A n c l) (h':Sl 7 RI w B m d l') (hx:∀x∈l,BdI x) (hy:∀x∈l',BdI x):Calls Tryz.prog 108 #[.slice A n c,.slice B m d] w (zBW (bxE l l') w):=by
 have HV:Hid (bxE l l' = ((zEO l && zEO l' && decide (l.length=l'.length)) && eqF ivE l l')):=rfl;have H1:=Zh (fun W hb=>zMg A B n c m d l l' W (h.next zAX hb) (h'.next zAX hb) hx hy);have H2:=Zh (fun W hb=>zFw A B n c m d l l' W (h.next zAX hb) (h'.next zAX hb) hx hy);clear h h' hx hy;have hb0:=Yp w.heap.size w;generalize (zEO l && zEO l' && decide (l.length=l'.length))=b1 at *;generalize eqF ivE l l' = b2 at *;go_enter Tryz.func108,Tryz.ntmps108
 go_wp2_with fail
 refine (H1.out _ hb0).mono ?_;rintro e w1 ⟨rfl,hb1x⟩
 replace hb0:=zAA hb0 hb1x;clear hb1x;cases hv1:b1
 ·rw [hv1] at HV
  clear hv1;go_wp2_with fail
  go_ret;exact ⟨by rw [HV.out];rfl,hb0⟩
 rw [hv1] at HV;clear hv1;go_wp2_with fail
 refine (H2.out _ hb0).mono ?_;rintro e w2 ⟨rfl,hb2x⟩
 replace hb0:=zAA hb0 hb2x;clear hb2x;go_wp2_with fail
 go_ret;exact ⟨by rw [HV.out];rfl,hb0⟩
theorem zHX (vs us:List Value) (x y:Lk) (w:World) (h:RL w vs x) (h':RL w us y) (hx:BdL x) (hy:BdL y):Calls Tryz.prog 107 (#[.agg vs.toArray,.agg us.toArray]++#[]) w (zBW (lkE x y) w):=by
 rw [Array.append_empty];obtain ⟨xH,xhs,xhc,xT,xtn,xtc,xA,xn,xc,xB,xm,xd,xC,xp,xq,xV,xvn,xvc,rfl,hx1,hx2,hx3,hx4,hx5,hx6⟩:=h;obtain ⟨⟨xhn,xhl,xhe⟩,xtu,xfe,xv⟩:=x;dsimp only at hx1 hx2 hx3 hx4 hx5 hx6 ⊢;obtain ⟨yH,yhs,yhc,yT,ytn,ytc,yA,yn,yc,yB,ym,yd,yC,yp,yq,yV,yvn,yvc,rfl,hy1,hy2,hy3,hy4,hy5,hy6⟩:=h';obtain ⟨⟨yhn,yhl,yhe⟩,ytu,yfe,yv⟩:=y;dsimp only at hy1 hy2 hy3 hy4 hy5 hy6 ⊢;have HV:Hid (lkE ⟨⟨xhn,xhl,xhe⟩,xtu,xfe,xv⟩ ⟨⟨yhn,yhl,yhe⟩,ytu,yfe,yv⟩=(decide (zCH ⟨xhn,xhl,xhe⟩ ⟨yhn,yhl,yhe⟩=0) && bxE xtu ytu && enF xfe yfe && enR xv yv)):=rfl;have rx1:RD w [.bool xhn,.slice xH xhs xhc,.int .i64 xhe] ⟨xhn,xhl,xhe⟩:=⟨xH,xhs,xhc,rfl,hx1⟩;have rx2:RF w [.slice xA xn xc,.slice xB xm xd,.slice xC xp xq] xfe:=⟨xA,xn,xc,xB,xm,xd,xC,xp,xq,rfl,hx3,hx4,hx5⟩;have ry1:RD w [.bool yhn,.slice yH yhs yhc,.int .i64 yhe] ⟨yhn,yhl,yhe⟩:=⟨yH,yhs,yhc,rfl,hy1⟩;have ry2:RF w [.slice yA yn yc,.slice yB ym yd,.slice yC yp yq] yfe:=⟨yA,yn,yc,yB,ym,yd,yC,yp,yq,rfl,hy3,hy4,hy5⟩;have H1:=Zh (fun W (hb:Below w.heap.size w W)=>zIW _ _ _ _ W (zAQ w W _ _ rx1 hb) (zAQ w W _ _ ry1 hb) hx.h hy.h);have H2:=Zh (fun W (hb:Below w.heap.size w W)=>zJU xT yT xtn xtc ytn ytc xtu ytu W (hx2.next zAX hb) (hy2.next zAX hb) hx.t hy.t);have H3:=Zh (fun W (hb:Below w.heap.size w W)=>zFs _ _ xfe yfe W (zBs w W _ _ rx2 hb) (zBs w W _ _ ry2 hb) hx.e hy.e);have H4:=Zh (fun W (hb:Below w.heap.size w W)=>zHt xV yV xvn xvc yvn yvc xv yv W (hx6.next zAh hb) (hy6.next zAh hb) hx.v hy.v);clear hx1 hx2 hx3 hx4 hx5 hx6 hy1 hy2 hy3 hy4 hy5 hy6 rx1 rx2 ry1 ry2 hx hy;generalize zCH ⟨xhn,xhl,xhe⟩ ⟨yhn,yhl,yhe⟩=r at *;generalize bxE xtu ytu=b2 at *;generalize enF xfe yfe=b3 at *;generalize enR xv yv=b4 at *;have hb0:=zAA (zAE w (.cells #[.bool xhn,.slice xH xhs xhc,.int .i64 xhe,.slice xT xtn xtc,.slice xA xn xc,.slice xB xm xd,.slice xC xp xq,.slice xV xvn xvc] 86)) (zAE (w.alloc (.cells #[.bool xhn,.slice xH xhs xhc,.int .i64 xhe,.slice xT xtn xtc,.slice xA xn xc,.slice xB xm xd,.slice xC xp xq,.slice xV xvn xvc] 86)) (.cells #[.bool yhn,.slice yH yhs yhc,.int .i64 yhe,.slice yT ytn ytc,.slice yA yn yc,.slice yB ym yd,.slice yC yp yq,.slice yV yvn yvc] 86));have ka:=(Blk.new w 86 #[.bool xhn,.slice xH xhs xhc,.int .i64 xhe,.slice xT xtn xtc,.slice xA xn xc,.slice xB xm xd,.slice xC xp xq,.slice xV xvn xvc]).next (zAE (w.alloc (.cells #[.bool xhn,.slice xH xhs xhc,.int .i64 xhe,.slice xT xtn xtc,.slice xA xn xc,.slice xB xm xd,.slice xC xp xq,.slice xV xvn xvc] 86)) (.cells #[.bool yhn,.slice yH yhs yhc,.int .i64 yhe,.slice yT ytn ytc,.slice yA yn yc,.slice yB ym yd,.slice yC yp yq,.slice yV yvn yvc] 86));have kb:Blk ((w.alloc (.cells #[.bool xhn,.slice xH xhs xhc,.int .i64 xhe,.slice xT xtn xtc,.slice xA xn xc,.slice xB xm xd,.slice xC xp xq,.slice xV xvn xvc] 86)).alloc (.cells #[.bool yhn,.slice yH yhs yhc,.int .i64 yhe,.slice yT ytn ytc,.slice yA yn yc,.slice yB ym yd,.slice yC yp yq,.slice yV yvn yvc] 86)) (w.heap.size+1) 86 #[.bool yhn,.slice yH yhs yhc,.int .i64 yhe,.slice yT ytn ytc,.slice yA yn yc,.slice yB ym yd,.slice yC yp yq,.slice yV yvn yvc]:=Blk.newAt _ _ _ (by simp);go_enter Tryz.func107,Tryz.ntmps107
 go_wp2_with fail
 generalize ((w.alloc (.cells #[.bool xhn,.slice xH xhs xhc,.int .i64 xhe,.slice xT xtn xtc,.slice xA xn xc,.slice xB xm xd,.slice xC xp xq,.slice xV xvn xvc] 86)).alloc (.cells #[.bool yhn,.slice yH yhs yhc,.int .i64 yhe,.slice yT ytn ytc,.slice yA yn yc,.slice yB ym yd,.slice yC yp yq,.slice yV yvn yvc] 86))=W0 at *;refine (H1.out _ hb0).mono ?_;rintro e w1 ⟨rfl,hb1x⟩
 replace hb0:=zAA hb0 hb1x;replace ka:=ka.next hb1x;replace kb:=kb.next hb1x;clear hb1x;by_cases hr:r=0
 rotate_left
 ·have hr2:(r == 0)=false:=by rw [Xh];exact hr
  rw [Ye hr] at HV;go_wp2_with fail
  go_ret;exact ⟨by rw [HV.out];rfl,hb0⟩
 rw [Yf hr] at HV;have hr2:(r == 0)=true:=by rw [hr];rfl
 clear hr;obtain ⟨kaq0,kaq1,kaq2,kaq3,kaq4,kaq5,kaq6,kaq7⟩:=ka.cells8;obtain ⟨kbq0,kbq1,kbq2,kbq3,kbq4,kbq5,kbq6,kbq7⟩:=kb.cells8;go_wp2_with fail
 refine (H2.out _ hb0).mono ?_;rintro e w2 ⟨rfl,hb2x⟩
 clear kaq0 kaq1 kaq2 kaq3 kaq4 kaq5 kaq6 kaq7 kbq0 kbq1 kbq2 kbq3 kbq4 kbq5 kbq6 kbq7;replace hb0:=zAA hb0 hb2x;replace ka:=ka.next hb2x;replace kb:=kb.next hb2x;clear hb2x;cases hv1:b2
 ·rw [hv1] at HV
  clear hv1;go_wp2_with fail
  go_ret;exact ⟨by rw [HV.out];rfl,hb0⟩
 rw [hv1] at HV;clear hv1;obtain ⟨kaq0,kaq1,kaq2,kaq3,kaq4,kaq5,kaq6,kaq7⟩:=ka.cells8;obtain ⟨kbq0,kbq1,kbq2,kbq3,kbq4,kbq5,kbq6,kbq7⟩:=kb.cells8;go_wp2_with fail
 refine (H3.out _ hb0).mono ?_;rintro e w3 ⟨rfl,hb3x⟩
 clear kaq0 kaq1 kaq2 kaq3 kaq4 kaq5 kaq6 kaq7 kbq0 kbq1 kbq2 kbq3 kbq4 kbq5 kbq6 kbq7;replace hb0:=zAA hb0 hb3x;replace ka:=ka.next hb3x;replace kb:=kb.next hb3x;clear hb3x;cases hv1:b3
 ·rw [hv1] at HV
  clear hv1;go_wp2_with fail
  go_ret;exact ⟨by rw [HV.out];rfl,hb0⟩
 rw [hv1] at HV;clear hv1;obtain ⟨kaq0,kaq1,kaq2,kaq3,kaq4,kaq5,kaq6,kaq7⟩:=ka.cells8;obtain ⟨kbq0,kbq1,kbq2,kbq3,kbq4,kbq5,kbq6,kbq7⟩:=kb.cells8;go_wp2_with fail
 refine (H4.out _ hb0).mono ?_;rintro e w4 ⟨rfl,hb4x⟩
 clear kaq0 kaq1 kaq2 kaq3 kaq4 kaq5 kaq6 kaq7 kbq0 kbq1 kbq2 kbq3 kbq4 kbq5 kbq6 kbq7;replace hb0:=zAA hb0 hb4x;replace ka:=ka.next hb4x;replace kb:=kb.next hb4x;clear hb4x;go_wp2_with fail
 go_ret;exact ⟨by rw [HV.out];rfl,hb0⟩
theorem zIV (vs us:List Value) (x y:Ct) (w:World) (h:RC w vs x) (h':RC w us y) (hx:BdC x) (hy:BdC y) (ht:zBx w):Calls Tryz.prog 51 #[.agg vs.toArray,.agg us.toArray] w (zBW (ctE x y) w):=by
 obtain ⟨xA,xn,xc,xB,xm,xd,xC,xp,xq,xL,xln,xlc,rfl,hx1,hx2,hx3,hx4⟩:=h;obtain ⟨xpr,xod,xst,xls⟩:=x;dsimp only at hx1 hx2 hx3 hx4 ⊢;obtain ⟨yA,yn,yc,yB,ym,yd,yC,yp,yq,yL,yln,ylc,rfl,hy1,hy2,hy3,hy4⟩:=h';obtain ⟨ypr,yod,yst,yls⟩:=y;dsimp only at hy1 hy2 hy3 hy4 ⊢;have HV:Hid (ctE ⟨xpr,xod,xst,xls⟩ ⟨ypr,yod,yst,yls⟩=(ctV ⟨xpr,xod,xst,xls⟩ && ctV ⟨ypr,yod,yst,yls⟩ && decide (xpr=ypr) && decide (xod=yod) && enF xst yst && eqF lkE xls yls)):=rfl;have rx1:RC w [.int .i64 xpr,.int .i64 xod,.slice xA xn xc,.slice xB xm xd,.slice xC xp xq,.slice xL xln xlc] ⟨xpr,xod,xst,xls⟩:=⟨xA,xn,xc,xB,xm,xd,xC,xp,xq,xL,xln,xlc,rfl,hx1,hx2,hx3,hx4⟩;have rx2:RF w [.slice xA xn xc,.slice xB xm xd,.slice xC xp xq] xst:=⟨xA,xn,xc,xB,xm,xd,xC,xp,xq,rfl,hx1,hx2,hx3⟩;have Hx:=Zh (fun W (hb:Below w.heap.size w W)=>zBe _ ⟨xpr,xod,xst,xls⟩ W (zAm w W _ _ rx1 hb) hx (ht.next hb));have ry1:RC w [.int .i64 ypr,.int .i64 yod,.slice yA yn yc,.slice yB ym yd,.slice yC yp yq,.slice yL yln ylc] ⟨ypr,yod,yst,yls⟩:=⟨yA,yn,yc,yB,ym,yd,yC,yp,yq,yL,yln,ylc,rfl,hy1,hy2,hy3,hy4⟩;have ry2:RF w [.slice yA yn yc,.slice yB ym yd,.slice yC yp yq] yst:=⟨yA,yn,yc,yB,ym,yd,yC,yp,yq,rfl,hy1,hy2,hy3⟩;have Hy:=Zh (fun W (hb:Below w.heap.size w W)=>zBe _ ⟨ypr,yod,yst,yls⟩ W (zAm w W _ _ ry1 hb) hy (ht.next hb));have H3:=Zh (fun W (hb:Below w.heap.size w W)=>zFs _ _ xst yst W (zBs w W _ _ rx2 hb) (zBs w W _ _ ry2 hb) hx.s hy.s);have H4:=Zh (fun W (hb:Below w.heap.size w W)=>zKu lkE 107 #[] xL yL xln xlc yln ylc xls yls W (hx4.next zBt hb) (hy4.next zBt hb) (zCQ Tryz.func107 (by kernel_rfl) rfl) (fun V vs us x y _ hm hm' hr hr'=>zHX vs us x y V hr hr' (hx.l x hm) (hy.l y hm')));clear hx1 hx2 hx3 hx4 hy1 hy2 hy3 hy4 rx1 rx2 ry1 ry2 hx hy ht;generalize ctV ⟨xpr,xod,xst,xls⟩=b1 at *;generalize ctV ⟨ypr,yod,yst,yls⟩=b2 at *;generalize enF xst yst=b3 at *;generalize eqF lkE xls yls=b4 at *;have hb0:=zAA (zAE w (.cells #[.int .i64 xpr,.int .i64 xod,.slice xA xn xc,.slice xB xm xd,.slice xC xp xq,.slice xL xln xlc] 29)) (zAE (w.alloc (.cells #[.int .i64 xpr,.int .i64 xod,.slice xA xn xc,.slice xB xm xd,.slice xC xp xq,.slice xL xln xlc] 29)) (.cells #[.int .i64 ypr,.int .i64 yod,.slice yA yn yc,.slice yB ym yd,.slice yC yp yq,.slice yL yln ylc] 29));have ka:=(Blk.new w 29 #[.int .i64 xpr,.int .i64 xod,.slice xA xn xc,.slice xB xm xd,.slice xC xp xq,.slice xL xln xlc]).next (zAE (w.alloc (.cells #[.int .i64 xpr,.int .i64 xod,.slice xA xn xc,.slice xB xm xd,.slice xC xp xq,.slice xL xln xlc] 29)) (.cells #[.int .i64 ypr,.int .i64 yod,.slice yA yn yc,.slice yB ym yd,.slice yC yp yq,.slice yL yln ylc] 29));have kb:Blk ((w.alloc (.cells #[.int .i64 xpr,.int .i64 xod,.slice xA xn xc,.slice xB xm xd,.slice xC xp xq,.slice xL xln xlc] 29)).alloc (.cells #[.int .i64 ypr,.int .i64 yod,.slice yA yn yc,.slice yB ym yd,.slice yC yp yq,.slice yL yln ylc] 29)) (w.heap.size+1) 29 #[.int .i64 ypr,.int .i64 yod,.slice yA yn yc,.slice yB ym yd,.slice yC yp yq,.slice yL yln ylc]:=Blk.newAt _ _ _ (by simp);go_enter Tryz.func51,Tryz.ntmps51
 go_wp2_with fail
 generalize ((w.alloc (.cells #[.int .i64 xpr,.int .i64 xod,.slice xA xn xc,.slice xB xm xd,.slice xC xp xq,.slice xL xln xlc] 29)).alloc (.cells #[.int .i64 ypr,.int .i64 yod,.slice yA yn yc,.slice yB ym yd,.slice yC yp yq,.slice yL yln ylc] 29))=W0 at *;refine (Hx.out _ hb0).mono ?_;rintro e w1 ⟨rfl,hb1x⟩
 replace hb0:=zAA hb0 hb1x;replace ka:=ka.next hb1x;replace kb:=kb.next hb1x;clear hb1x;cases hv1:b1
 ·rw [hv1] at HV
  clear hv1;go_wp2_with fail
  go_ret;exact ⟨by rw [HV.out];rfl,hb0⟩
 rw [hv1] at HV;clear hv1;obtain ⟨kaq0,kaq1,kaq2,kaq3,kaq4,kaq5⟩:=ka.cells6;obtain ⟨kbq0,kbq1,kbq2,kbq3,kbq4,kbq5⟩:=kb.cells6;go_wp2_with fail
 refine (Hy.out _ hb0).mono ?_;rintro e w2 ⟨rfl,hb2x⟩
 clear kaq0 kaq1 kaq2 kaq3 kaq4 kaq5 kbq0 kbq1 kbq2 kbq3 kbq4 kbq5;replace hb0:=zAA hb0 hb2x;replace ka:=ka.next hb2x;replace kb:=kb.next hb2x;clear hb2x;cases hv1:b2
 ·rw [hv1] at HV
  clear hv1;go_wp2_with fail
  go_ret;exact ⟨by rw [HV.out];rfl,hb0⟩
 rw [hv1] at HV;clear hv1;by_cases hp:xpr=ypr
 rotate_left
 ·have hp2:(xpr == ypr)=false:=by rw [Xh];exact hp
  rw [Ye hp] at HV;obtain ⟨kaq0,kaq1,kaq2,kaq3,kaq4,kaq5⟩:=ka.cells6;obtain ⟨kbq0,kbq1,kbq2,kbq3,kbq4,kbq5⟩:=kb.cells6;go_wp2_with fail
  go_ret;exact ⟨by rw [HV.out];rfl,hb0⟩
 rw [Yf hp] at HV;have hp2:(xpr == ypr)=true:=by rw [hp];simp
 clear hp;by_cases ho:xod=yod
 rotate_left
 ·have ho2:(xod == yod)=false:=by rw [Xh];exact ho
  rw [Ye ho] at HV;obtain ⟨kaq0,kaq1,kaq2,kaq3,kaq4,kaq5⟩:=ka.cells6;obtain ⟨kbq0,kbq1,kbq2,kbq3,kbq4,kbq5⟩:=kb.cells6;go_wp2_with fail
  go_ret;exact ⟨by rw [HV.out];rfl,hb0⟩
 rw [Yf ho] at HV;have ho2:(xod == yod)=true:=by rw [ho];simp
 clear ho;obtain ⟨kaq0,kaq1,kaq2,kaq3,kaq4,kaq5⟩:=ka.cells6;obtain ⟨kbq0,kbq1,kbq2,kbq3,kbq4,kbq5⟩:=kb.cells6;go_wp2_with fail
 refine (H3.out _ hb0).mono ?_;rintro e w3 ⟨rfl,hb3x⟩
 clear kaq0 kaq1 kaq2 kaq3 kaq4 kaq5 kbq0 kbq1 kbq2 kbq3 kbq4 kbq5;replace hb0:=zAA hb0 hb3x;replace ka:=ka.next hb3x;replace kb:=kb.next hb3x;clear hb3x;cases hv1:b3
 ·rw [hv1] at HV
  clear hv1;go_wp2_with fail
  go_ret;exact ⟨by rw [HV.out];rfl,hb0⟩
 rw [hv1] at HV;clear hv1;obtain ⟨kaq0,kaq1,kaq2,kaq3,kaq4,kaq5⟩:=ka.cells6;obtain ⟨kbq0,kbq1,kbq2,kbq3,kbq4,kbq5⟩:=kb.cells6;go_wp2_with fail
 refine (H4.out _ hb0).mono ?_;rintro e w4 ⟨rfl,hb4x⟩
 clear kaq0 kaq1 kaq2 kaq3 kaq4 kaq5 kbq0 kbq1 kbq2 kbq3 kbq4 kbq5;replace hb0:=zAA hb0 hb4x;replace ka:=ka.next hb4x;replace kb:=kb.next hb4x;clear hb4x;go_wp2_with fail
 go_ret;exact ⟨by rw [HV.out];rfl,hb0⟩
def sN (l l':List Dy):Bool:=eqF eqD l l'
def sI (x y:Iv):Bool:=(x.all == y.all) && eqD x.lo y.lo && eqD x.hi y.hi
def sB (l l':List Iv):Bool:=eqF sI l l'
def sM (m m':List (List Dy)):Bool:=eqF sN m m'
def sF (f g:Fr):Bool:=sN f.c g.c && sM f.a g.a && sB f.r g.r
def sL (x y:Lk):Bool:=eqD x.h y.h && sB x.tube y.tube && sF x.e y.e && sM x.v y.v
def sC (x y:Ct):Bool:=decide (x.prec=y.prec) && decide (x.order=y.order) && sF x.start y.start && eqF sL x.links y.links
def LmI (x:Iv):Prop:=zAV x.lo.l/\zAV x.hi.l
structure LmF (f:Fr):Prop where
 c:∀d∈f.c,zAV d.l
 a:∀l∈f.a,∀d∈l,zAV d.l
 r:∀x∈f.r,LmI x
structure LmL (x:Lk):Prop where
 h:zAV x.h.l
 t:∀y∈x.tube,LmI y
 e:LmF x.e
 v:∀l∈x.v,∀d∈l,zAV d.l
structure LmC (x:Ct):Prop where
 s:LmF x.start
 l:∀y∈x.links,LmL y
theorem zHH {W:World}{A:Option Addr}{n c:Nat}{l:List Iv}(h:Sl 7 RI W A n c l):∀d∈l,LmI d:=by
 intro d hd;obtain ⟨j,hj⟩:=List.getElem?_of_mem hd;have hlt:j<n:=by have:=(Yb.1 hj).1;have:=h.len;omega
 obtain ⟨b,off,x,vs,_,_,hx,_,⟨A1,n1,c1,A2,n2,c2,_,hs,hs'⟩,_⟩:=h.get hlt;rw [hj] at hx;injection hx with hx
 rw [hx];exact ⟨hs.lt,hs'.lt⟩
theorem zQo {W:World}{vs:List Value}{x:Lk}(h:RL W vs x):LmL x:=by
 obtain ⟨H,hn,hc,T,tn,tc,A,n,c,B,m,d,C,p,q,V,vn,vc,_,h1,h2,h3,h4,h5,h6⟩:=h;exact ⟨h1.lt,zHH h2,⟨zI4 h3,zFI h4,zHH h5⟩,zFI h6⟩
theorem zIz {W:World}{vs:List Value}{x:Ct}(h:RC W vs x):LmC x:=by
 obtain ⟨A,n,c,B,m,d,C,p,q,L,ln,lc,_,h1,h2,h3,h4⟩:=h;refine ⟨⟨zI4 h1,zFI h2,zHH h3⟩,fun y hy=>?_⟩;obtain ⟨j,hj⟩:=List.getElem?_of_mem hy;have hlt:j<ln:=by have:=(Yb.1 hj).1;have:=h4.len;omega
 obtain ⟨b,off,x,vs,_,_,hx,_,hR,_⟩:=h4.get hlt;rw [hj] at hx;injection hx with hx
 rw [hx];exact zQo hR
theorem zDk {α:Type}{p q:α->α->Bool}:∀ (xs ys:List α),(∀x∈xs,∀y∈ys,p x y=q x y)->eqF p xs ys=eqF q xs ys:=by
 intro xs
 induction xs with
 | nil=>intro ys _;cases ys <;> rfl
 | cons x xs ih=>
  intro ys h;cases ys with
  | nil=>rfl
  | cons y ys=>
   simp only [eqF];rw [h x (by simp) y (by simp),ih ys (fun a ha b hb=>h a (by simp [ha]) b (by simp [hb]))]
theorem zGD {α:Type}{p:α->α->Bool}:∀ (xs:List α),(∀x∈xs,p x x=true)->eqF p xs xs=true:=by
 intro xs
 induction xs with
 | nil=>intro _;rfl
 | cons x xs ih=>intro h;simp only [eqF];rw [h x (by simp),ih (fun a ha=>h a (by simp [ha]))];rfl
theorem zP6 {α:Type}{p:α->α->Bool}(xs ys:List α):(decide (xs.length=ys.length) && eqF p xs ys)=eqF p xs ys:=by
 by_cases h:xs.length=ys.length
 ·rw [Yf h];rfl
 ·rw [zGk p xs ys h];simp
theorem zRN {d d':Dy}(h:eqD d d' = true):d=d':=by
 unfold eqD at h;have h:=of_decide_eq_true h;obtain ⟨a,b,c⟩:=d;obtain ⟨a',b',c'⟩:=d';simp only at h;obtain ⟨rfl,rfl,rfl⟩:=h;rfl
theorem sI_id {x y:Iv}(h:sI x y=true):x=y:=by
 unfold sI at h;simp only [Yi,beq_iff_eq] at h;obtain ⟨⟨h1,h2⟩,h3⟩:=h;obtain ⟨a,b,c⟩:=x;obtain ⟨a',b',c'⟩:=y;simp only at h1 h2 h3;rw [zRN h2,zRN h3,h1]
theorem zO1 (l:List Dy):sN l l=true:=zGD l (fun x _=>zGC x)
theorem zTE (x:Iv):sI x x=true:=by
 unfold sI;obtain ⟨⟨a,b,c⟩,⟨a',b',c'⟩,al⟩:=x;simp only [];rw [zGC,zGC];simp
theorem zO0 (l:List (List Dy)):sM l l=true:=zGD l (fun x _=>zO1 x)
theorem zOy (l:List Iv):sB l l=true:=zGD l (fun x _=>zTE x)
theorem zOz (f:Fr):sF f f=true:=by unfold sF;rw [zO1,zO0,zOy];rfl
theorem zTF (x:Lk):sL x x=true:=by
 unfold sL;obtain ⟨⟨a,b,c⟩,t,e,v⟩:=x;simp only [];rw [zGC,zOy,zOz,zO0];rfl
theorem zTD (x:Ct):sC x x=true:=by
 unfold sC;rw [zOz,zGD x.links (fun y _=>zTF y)];simp
theorem zTz {d d':Dy}(h:zAV d.l) (h':zAV d'.l) (hv:vld d=true) (hv':vld d' = true):cz d d' = eqD d d':=by
 unfold cz;rw [<- zJX h h' hv hv'];rfl
theorem zRU {x y:Iv}(h:LmI x) (h':LmI y) (hv:ivV x=true) (hv':ivV y=true) (ha:x.all=false) (ha':y.all=false):ivE x y=sI x y:=by
 obtain ⟨v1,v2⟩:=zOF hv ha;obtain ⟨v3,v4⟩:=zOF hv' ha';unfold ivE ins sI;rw [hv,hv',ha,ha',<- zJX h.1 h'.1 v1 v3,<- zJX h.2 h'.2 v2 v4];have e1:=(zLd x.lo y.lo).1;have e2:=(zLd x.hi y.hi).1;rw [e1,e2];generalize zCH y.lo x.lo=a;generalize zCH y.hi x.hi=b;rw [Bool.eq_iff_iff];simp only [Bool.true_and,Bool.false_or,Bool.not_false,Yi,Xa,beq_iff_eq,beq_self_eq_true];omega
theorem zRL {l l':List Dy}(h:∀d∈l,zAV d.l) (h':∀d∈l',zAV d.l) (hv:∀d∈l,vld d=true) (hv':∀d∈l',vld d=true):enN l l' = sN l l':=
 zDk l l' (fun x hx y hy=>zTz (h x hx) (h' y hy) (hv x hx) (hv' y hy))
theorem zRM {l l':List (List Dy)}(h:∀a∈l,∀d∈a,zAV d.l) (h':∀a∈l',∀d∈a,zAV d.l) (hv:∀a∈l,∀d∈a,vld d=true) (hv':∀a∈l',∀d∈a,vld d=true):enR l l' = sM l l':=
 zDk l l' (fun x hx y hy=>zRL (h x hx) (h' y hy) (hv x hx) (hv' y hy))
theorem zDf {α:Type}{p:α->Bool}{l:List α}(h:(!l.any p)=true):∀x∈l,p x=false:=by
 rw [Bool.not_eq_true',List.any_eq_false] at h;intro x hx
 simpa using h x hx
theorem zDm {f:Fr}(h:frV f=true):(∀d∈f.c,vld d=true)/\(∀l∈f.a,∀d∈l,vld d=true)/\∀x∈f.r,ivV x=true/\x.all=false:=by
 have h2:=zN6 h;unfold frV at h;simp only [Yi] at h;refine ⟨fun d hd=>by simpa using zDf h.1.1.2 d hd,h2,fun x hx=>?_⟩;have:=zDf h.2 x hx;rw [Xc] at this;refine ⟨?_,this.1⟩;have h3:=this.2;unfold zCM at h3;simp only [Bool.not_eq_false',Yi] at h3;exact h3.1.1
theorem zB9 {l:List Iv}(h:zEO l=true):∀x∈l,ivV x=true/\x.all=false:=by
 unfold zEO at h;simp only [Yi] at h;intro x hx;have:=zDf h.2 x hx;rw [Xc] at this;exact ⟨by simpa using this.2,this.1⟩
theorem zLM {v:List (List Dy)}{N:Nat}(h:sqV v N=true):∀l∈v,∀d∈l,vld d=true:=by
 unfold sqV at h;simp only [Yi] at h;intro l hl d hd;have:=zDf h.2 l hl;rw [Xc] at this;have h2:=List.any_eq_false.1 this.2 d hd
 simpa using h2
theorem zRK {f g:Fr}(h:LmF f) (h':LmF g) (hv:frV f=true) (hv':frV g=true):enF f g=sF f g:=by
 obtain ⟨a1,a2,a3⟩:=zDm hv;obtain ⟨b1,b2,b3⟩:=zDm hv';unfold enF sF;rw [zRL h.c h'.c a1 b1,zRM h.a h'.a a2 b2]
 congr 1
 exact zDk _ _ (fun x hx y hy=>zRU (h.r x hx) (h'.r y hy) (a3 x hx).1 (b3 y hy).1 (a3 x hx).2 (b3 y hy).2)
theorem zUM {x y:Lk}{N M:Nat}(h:LmL x) (h':LmL y) (hv:lkV N x=true) (hv':lkV M y=true):lkE x y=sL x y:=by
 unfold lkV at hv hv';simp only [Yi] at hv hv';obtain ⟨⟨⟨⟨⟨⟨v1,v2⟩,v3⟩,v4⟩,v5⟩,v6⟩,v7⟩:=hv;obtain ⟨⟨⟨⟨⟨⟨u1,u2⟩,u3⟩,u4⟩,u5⟩,u6⟩,u7⟩:=hv';unfold lkE sL bxE;rw [zTz h.h h'.h v1 u1,zRK h.e h'.e v5 u5,zRM h.v h'.v (zLM v7) (zLM u7),v3,u3,Bool.true_and,Bool.true_and,zP6];have:eqF ivE x.tube y.tube=sB x.tube y.tube:=zDk _ _ (fun a ha b hb=>zRU (h.t a ha) (h'.t b hb) (zB9 v3 a ha).1 (zB9 u3 b hb).1 (zB9 v3 a ha).2 (zB9 u3 b hb).2);rw [this]
theorem zBM {x:Ct}(h:ctV x=true):frV x.start=true/\idM x.start.a=true/\(∀l∈x.links,lkV x.start.c.length l=true)/\8<=x.prec/\x.prec<=256/\1<=x.order/\x.order<=15/\1<=x.start.c.length/\x.start.c.length<=4/\x.links.length<=1000:=by
 unfold ctV at h;simp only [Yi,Xa] at h;obtain ⟨⟨⟨⟨⟨⟨⟨⟨⟨v1,v2⟩,v3⟩,v4⟩,v5⟩,v6⟩,v7⟩,v8⟩,v9⟩,v10⟩:=h;exact ⟨v8,v9,fun l hl=>by simpa using zDf v10 l hl,v1,v2,v3,v4,v6,v7,v5⟩
theorem zTy {x y:Ct}(h:LmC x) (h':LmC y):ctE x y=(ctV x && ctV y && sC x y):=by
 unfold ctE sC;cases hv:ctV x
 ·rfl
 ·cases hv':ctV y
  ·rfl
  ·obtain ⟨a1,_,a3,_⟩:=zBM hv
   obtain ⟨b1,_,b3,_⟩:=zBM hv';rw [zRK h.s h'.s a1 b1,zDk x.links y.links (fun a ha b hb=>zUM (h.l a ha) (h'.l b hb) (a3 a ha) (b3 b hb))];simp only [Bool.true_and,Bool.and_assoc]
theorem zPz {x:Ct}(h:LmC x):ctE x x=ctV x:=by
 rw [zTy h h,zTD];simp
theorem zSV:(Tryz.prog.info? 86).map (fun i=>(i.zero,i.size,i.bytes))=some (some (.agg #[.bool false,.slice none 0 0,.int .i64 0,.slice none 0 0,.slice none 0 0,.slice none 0 0,.slice none 0 0,.slice none 0 0]),8,160):=by kernel_rfl
structure KR (g:Nat) (w w':World):Prop where
 os:w'.os=w.os
 tape:w'.tape=w.tape
 output:w'.output=w.output
 size:w.heap.size<=w'.heap.size
 block:∀b,b<w.heap.size->b≠g->w'.heap[b]? = w.heap[b]?
section
variable {g:Nat}{w w' w'':World}
theorem KR.refl (g:Nat) (w:World):KR g w w:=⟨rfl,rfl,rfl,Ya _,fun _ _ _=>rfl⟩
theorem KR.trans (h:KR g w w') (k:KR g w' w''):KR g w w'':=⟨k.os.trans h.os,k.tape.trans h.tape,k.output.trans h.output,Yq h.size k.size,fun b hb hg=>(k.block b (Yh hb h.size) hg).trans (h.block b hb hg)⟩
theorem KR.of (h:Below w.heap.size w w'):KR g w w':=⟨h.os,h.tape,h.output,h.size,fun b hb _=>h.block b hb⟩
theorem KR.below {B:Nat}(h:KR g w w') (hB:B<=w.heap.size) (hg:B<=g):Below B w w':=⟨h.os,h.tape,h.output,h.size,fun b hb=>h.block b (by omega) (by omega)⟩
theorem KR.set (i:Nat) (v:Value):KR g w (w.setCell ⟨g,i,none⟩ v):=⟨rfl,rfl,rfl,by simp [World.setCell],fun b _ hg=>Yl _ _ _ _ hg⟩
theorem KR.blk {b:Nat}{t:TypeId}{cs:Array Value}(h:KR g w w') (hk:Blk w b t cs) (hg:b≠g):Blk w' b t cs:=(h.block b hk.lt hg).trans hk
theorem KR.thenB (h:KR g w w') (k:Below w.heap.size w' w''):KR g w w'':=⟨k.os.trans h.os,k.tape.trans h.tape,k.output.trans h.output,Yq h.size k.size,fun b hb hg=>(k.block b hb).trans (h.block b hb hg)⟩
end
theorem zED {e:TypeId}{k:Nat}{w:World}{base:Nat}{v:Value}{fs:List (List Value)}(h:zKf e k w base v fs):∃A n c,v=.slice A n c:=by
 obtain ⟨A,c,h,_,_⟩:=h.form;exact ⟨A,_,c,h⟩
structure Got (lo hi T:Nat) (w:World) (P:World->Prop):Prop where
 le:hi<=w.heap.size
 on:On hi (fun b=>lo<=b/\b<hi/\b≠T) w P
theorem Got.next {lo hi T:Nat}{w w':World}{P:World->Prop}(h:Got lo hi T w P) (hb:Below w.heap.size w w'):Got lo hi T w' P:=⟨Yq h.le hb.size,h.on.move (fun b hF=>hb.block b (Yh hF.2.1 h.le))⟩
theorem Got.of {lo hi B:Nat}{w:World}{P:World->Prop}(h:Ly B w P) (h1:lo=B) (h2:hi=w.heap.size):Got lo hi w.heap.size w P:=by
 subst h1 h2;exact ⟨Ya _,fun W e1 e2=>h W e1 (fun b b1 b2=>e2 b ⟨b1,b2,by omega⟩)⟩
structure zPg (lo hi T:Nat) (w:World) (xs:List Iv):Prop where
 le:hi<=w.heap.size
 l:lo<=T
 r:T<hi
 row:zFo hi (fun b=>lo<=b/\b<hi/\b≠T) w T xs
theorem zPg.next {lo hi T:Nat}{w w':World}{xs:List Iv}(h:zPg lo hi T w xs) (hb:Below w.heap.size w w'):zPg lo hi T w' xs:=⟨Yq h.le hb.size,h.l,h.r,h.row.move (hb.block T (Yh h.r h.le)) (fun b hF=>hb.block b (Yh hF.2.1 h.le))⟩
theorem zeN {fn:Func}{k:Nat}(h:fn.results=#[.cell k 26]) {tmps:Array Value}{W:World}{g:Nat}{t:TypeId}{x0 x1 x2:Value}(hk:tmps.getD k undef=.pointer (some ⟨g,0,none⟩)) (hB:Blk W g t #[x0,x1,x2]) :
  (results fn tmps).run Tryz.prog W=.ok (.agg #[x0,x1,x2]) W:=by
 have c0:=hB.cell 0;have c1:=hB.cell 1;have c2:=hB.cell 2;simp at c0 c1 c2;have hk':tmps[k]?.getD undef=.pointer (some ⟨g,0,none⟩):=by simpa using hk
 simp [results,h,hk',go_sem,c0,c1,c2]
theorem zj1 {fn:Func}{k:Nat}(h:fn.results=#[.cell k 29]) {tmps:Array Value}{W:World}{g:Nat}{t:TypeId}{x0 x1 x2 x3 x4 x5:Value}(hk:tmps.getD k undef=.pointer (some ⟨g,0,none⟩)) (hB:Blk W g t #[x0,x1,x2,x3,x4,x5]) :
  (results fn tmps).run Tryz.prog W=.ok (.agg #[x0,x1,x2,x3,x4,x5]) W:=by
 have c0:=hB.cell 0;have c1:=hB.cell 1;have c2:=hB.cell 2;have c3:=hB.cell 3;have c4:=hB.cell 4;have c5:=hB.cell 5;simp at c0 c1 c2 c3 c4 c5;have hk':tmps[k]?.getD undef=.pointer (some ⟨g,0,none⟩):=by simpa using hk
 simp [results,h,hk',go_sem,c0,c1,c2,c3,c4,c5]
structure SzF (f:Fr):Prop where
 c:f.c.length<=1000
 a:f.a.length<=1000
 l:∀l∈f.a,l.length<=1000
 r:f.r.length<=1000
 p:0<f.r.length
theorem szF {f:Fr}(h:frV f=true):SzF f:=by
 unfold frV at h;simp only [Yi,Xa] at h;obtain ⟨⟨⟨⟨⟨⟨v1,v2⟩,v3⟩,v4⟩,v5⟩,v6⟩,v7⟩:=h;refine ⟨by omega,by omega,fun l hl=>?_,by omega,by omega⟩;have:=zDf v6 l hl;rw [Xc] at this;have:=of_decide_eq_false this.1;omega
structure zhC (f:Fr) (W0 wx:World) (g T:Nat) (B:Option Addr) (d q:Nat):Prop where
 blk:Blk wx g 26 #[.slice none 0 0,.slice B f.a.length d,.slice (some ⟨T,0,none⟩) f.r.length q]
 g0:W0.heap.size<=g
 t0:W0.heap.size<=T
 ne:T≠g
 tl:T<wx.heap.size
 q1:f.r.length<=q
 q2:q<=9223372036854775807
 a:On wx.heap.size (fun b=>W0.heap.size<=b/\b<wx.heap.size/\b≠T/\b≠g) wx (fun W=>Sl 1 RM W B f.a.length d f.a)
 r:zFo wx.heap.size (fun b=>W0.heap.size<=b/\b<wx.heap.size/\b≠T/\b≠g) wx T f.r
 b:Below W0.heap.size W0 wx
def VFr (f:Fr) (w:World) (e:Ending) (w':World):Prop:=∃A c B d T q,e=.returned (.agg #[.slice A f.c.length c,.slice B f.a.length d,.slice (some ⟨T,0,none⟩) f.r.length q])/\w.heap.size<=T/\T<w'.heap.size/\f.r.length<=q/\q<=9223372036854775807/\
 Got w.heap.size w'.heap.size T w' (fun W=>Sl 3 RD W A f.c.length c f.c/\Sl 1 RM W B f.a.length d f.a)/\zPg w.heap.size w'.heap.size T w' f.r/\Below w.heap.size w w'
theorem zET (vs:List Value) (f:Fr) (w:World) (h:RF w vs f) (hx:BdF f) (hz:SzF f):Calls Tryz.prog 91 #[.agg vs.toArray] w (VFr f w):=by
 obtain ⟨xA,xn,xc,xB,xm,xd,xC,xp,xq,rfl,hx1,hx2,hx3⟩:=h;have hW1:=zAE w (.cells #[.slice xA xn xc,.slice xB xm xd,.slice xC xp xq] 26);have hW2:=zAE (w.alloc (.cells #[.slice xA xn xc,.slice xB xm xd,.slice xC xp xq] 26)) (.cells #[.slice none 0 0,.slice none 0 0,.slice none 0 0] 26);have hb0:=zAA hW1 hW2;have kx:=(Blk.new w 26 #[.slice xA xn xc,.slice xB xm xd,.slice xC xp xq]).next hW2;have kr:Blk ((w.alloc (.cells #[.slice xA xn xc,.slice xB xm xd,.slice xC xp xq] 26)).alloc (.cells #[.slice none 0 0,.slice none 0 0,.slice none 0 0] 26)) (w.heap.size+1) 26 #[.slice none 0 0,.slice none 0 0,.slice none 0 0]:=Blk.newAt _ _ _ (by simp);have hsz:((w.alloc (.cells #[.slice xA xn xc,.slice xB xm xd,.slice xC xp xq] 26)).alloc (.cells #[.slice none 0 0,.slice none 0 0,.slice none 0 0] 26)).heap.size=w.heap.size+2:=by simp
 have hsz1:=Ys hsz;have hsz2:=Ys hsz.symm;clear hsz;have HX:=Zh hx;have HZ:=Zh hz;have HX1:=Zh hx1;have HX2:=Zh hx2;have HX3:=Zh hx3;have m1:=hx1.cap;have m2:=hx1.max;have l1:=hx1.len;have l2:=hx2.len;have l3:=hx3.len;have z1:=hz.c;have z2:=hz.a;have z4:=hz.r;have z5:=hz.p;have HP:=Zh z5;have hxn:xn<=1000:=by omega
 have hxm:xm<=1000:=by omega
 have hxp:xp<=1000:=by omega
 clear hx hz hx1 hx2 hx3 hW1 hW2 z1 z2 z4 z5;have HL1:=Zh l1;have HL2:=Zh l2;have HL3:=Zh l3;clear l1 l2 l3;obtain ⟨p0,p1,p2⟩:=kx.cells3;go_enter Tryz.func91,Tryz.ntmps91
 go_upto_region 1 with fail
 generalize ((w.alloc (.cells #[.slice xA xn xc,.slice xB xm xd,.slice xC xp xq] 26)).alloc (.cells #[.slice none 0 0,.slice none 0 0,.slice none 0 0] 26))=W0 at *;have HB0:=Zh hb0;have HKR:=Zh kr;have HC1:=Zh (fun W (hW:Below W0.heap.size W0 W)=>zF5 xB xm xd f.a W ((HX2.out.next zAh HB0.out).next zAh hW) HX.out.a hxm HZ.out.l);have HC2:=Zh (fun W (hW:Below W0.heap.size W0 W)=>zEU xC xp xq f.r W ((HX3.out.next zAX HB0.out).next zAX hW) HX.out.r hxp);clear hb0 kr
 go_cut [3] (fun s3 wx=>∃g T B d q,s3=.pointer (some ⟨g,0,none⟩)/\zhC f W0 wx g T B d q)
 case first=>
  have HK:Hid (∀V,Below W0.heap.size W0 V->(fun W=>Blk W w.heap.size 26 #[.slice xA xn xc,.slice xB xm xd,.slice xC xp xq]) V):=fun V hV=>kx.next hV
  have HKp:=Zh (HK.out _ (zBw W0));have hB:=zBw W0;have hsd1:W0.drew.heap.size<=W0.heap.size:=Ya _;have hsd2:W0.heap.size<=W0.drew.heap.size:=Ya _;clear p0 p1 p2 kx;refine wp_region_held_drew (S:=(fun W=>Blk W w.heap.size 26 #[.slice xA xn xc,.slice xB xm xd,.slice xC xp xq])) (by kernel_rfl) (HK.out _ hB) (fun hH=>?_);generalize W0.drew=Wd at *;refine tk (i:=0) (oi:=⟨_,_,_,_,_,_⟩) (v:=?_) rfl (by rfl) ?_ hH ?_;rotate_left
  ·(intro w hSw;obtain ⟨p0,p1,p2⟩:=Blk.cells3 hSw;go_simp;try (with_reducible rfl))
  simp only [Act.put,sT,sZ,sS];refine tk (i:=1) (oi:=⟨_,_,_,_,_,_⟩) (v:=?_) rfl (by rfl) ?_ hH ?_;rotate_left
  ·(intro w hSw;obtain ⟨p0,p1,p2⟩:=Blk.cells3 hSw;go_simp;try (with_reducible rfl))
  simp only [Act.put,sT,sZ,sS];refine tk (i:=3) (oi:=⟨_,_,_,_,_,_⟩) (v:=?_) rfl (by rfl) ?_ hH ?_;rotate_left
  ·(intro w hSw;obtain ⟨p0,p1,p2⟩:=Blk.cells3 hSw;go_simp;try (with_reducible rfl))
  simp only [Act.put,sT,sZ,sS];refine tk (i:=4) (oi:=⟨_,_,_,_,_,_⟩) (v:=?_) rfl (by rfl) ?_ hH ?_;rotate_left
  ·(intro w hSw;obtain ⟨p0,p1,p2⟩:=Blk.cells3 hSw;go_simp;try (with_reducible rfl))
  simp only [Act.put,sT,sZ,sS];refine Yj (rs:=[2,7]) (by kernel_rfl) (by simp) ?_;refine Yc (o:=⟨_,_,_,_,_,_⟩) rfl (fun K hK=>?_) ?_
  ·go_simp
   refine (HC1.out _ hB).mono ?_;rintro e V1 ⟨NA,nc,rfl,hly,hc⟩
   obtain ⟨lo1,hlo1⟩:∃n,n=Wd.heap.size:=⟨_,rfl⟩;obtain ⟨hi1,hhi1⟩:∃n,n=V1.heap.size:=⟨_,rfl⟩;have HN:=Zh (Got.of hly hlo1 hhi1);have hs1:=hc.size
   try replace HI:=Zh (HI.out.next hc)
   try replace HG:=Zh (HG.out.next hc)
   replace hB:=zAA hB hc;replace HKp:=Zh (HK.out _ hB);clear hc hly;go_wp2_with fail
   refine hK.out _ _ (HKp.out) (fun hH=>?_);clear hK K;refine Yj (rs:=[5,7]) (by kernel_rfl) (by simp) ?_;refine Yc (o:=⟨_,_,_,_,_,_⟩) rfl (fun K hK=>?_) ?_
   ·go_simp
    refine (HC2.out _ hB).mono ?_;rintro e V2 ⟨va,fsa,rfl,hacc,hc⟩
    obtain ⟨lo2,hlo2⟩:∃n,n=V1.heap.size:=⟨_,rfl⟩;obtain ⟨hi2,hhi2⟩:∃n,n=V2.heap.size:=⟨_,rfl⟩;obtain ⟨T,q,rfl,ht1,hq1,hq2,hrow⟩:=hacc.row HP.out;have ht2:=hrow.lt;have HI:Hid (zPg lo2 hi2 T V2 f.r):=⟨by omega,by omega,by omega,hrow.sub (by omega) (fun b hb=>⟨by omega,by omega,hb.2.2⟩)⟩;have hs2:=hc.size
    try replace HN:=Zh (HN.out.next hc)
    try replace HG:=Zh (HG.out.next hc)
    replace hB:=zAA hB hc;replace HKp:=Zh (HK.out _ hB);clear hc hacc hrow;go_wp2_with fail
    refine hK.out _ _ (HKp.out) (fun hH=>?_);clear hK K;refine tk (i:=6) (oi:=⟨_,_,_,_,_,_⟩) (v:=?_) rfl (by rfl) ?_ hH ?_;rotate_left
    ·(intro w hSw;obtain ⟨p0,p1,p2⟩:=Blk.cells3 hSw;go_simp;try (with_reducible rfl))
    simp only [Act.put,sT,sZ,sS];refine Yj (rs:=[7]) (by kernel_rfl) (by simp) ?_;refine Yc (o:=⟨_,_,_,_,_,_⟩) rfl (fun K hK=>?_) Yd
    go_simp
    have hgs1:(V2.alloc (.cells #[.slice none 0 0,.slice none 0 0,.slice none 0 0] 26)).heap.size<=V2.heap.size+1:=by simp
    have hgs2:V2.heap.size+1<=(V2.alloc (.cells #[.slice none 0 0,.slice none 0 0,.slice none 0 0] 26)).heap.size:=by simp
    have HG:Hid (Blk (V2.alloc (.cells #[.slice none 0 0,.slice none 0 0,.slice none 0 0] 26)) V2.heap.size 26 #[.slice none 0 0,.slice none 0 0,.slice none 0 0]):=Blk.new _ _ _;have hc:=zAE V2 (.cells #[.slice none 0 0,.slice none 0 0,.slice none 0 0] 26)
    try replace HN:=Zh (HN.out.next hc)
    try replace HI:=Zh (HI.out.next hc)
    replace hB:=zAA hB hc;replace HKp:=Zh (HK.out _ hB);clear hc;generalize (V2.alloc (.cells #[.slice none 0 0,.slice none 0 0,.slice none 0 0] 26))=Y1 at *;refine hK.out _ _ (HKp.out) (fun hH=>?_);clear hK K;refine Yj (rs:=[8]) (by kernel_rfl) (by simp) ?_;refine Yc (o:=⟨_,_,_,_,_,_⟩) rfl (fun K hK=>?_) Yd;obtain ⟨r0,r1,r2⟩:=HG.out.cells3;have f0:=HG.out.frozen 0;have f1:=HG.out.frozen 1;have f2:=HG.out.frozen 2
    go_simp
    clear r0 r1 r2 f0 f1 f2;have hgg:W0.heap.size<=V2.heap.size:=by omega
    have HG2:=Zh (HG.out.set3 (.slice none 0 0) (.slice NA f.a.length nc) (.slice (some ⟨T,0,none⟩) f.r.length q));have hbe:=zAG hB hgg (.slice none 0 0) (.slice NA f.a.length nc) (.slice (some ⟨T,0,none⟩) f.r.length q);have hne:V2.heap.size<lo2\/hi2<=V2.heap.size:=by omega
    have hne1:V2.heap.size<lo1\/hi1<=V2.heap.size:=by omega
    have hmv:∀b,b≠V2.heap.size->(((Y1.setCell ⟨V2.heap.size,0,none⟩ (.slice none 0 0)).setCell ⟨V2.heap.size,1,none⟩ (.slice NA f.a.length nc)).setCell ⟨V2.heap.size,2,none⟩ (.slice (some ⟨T,0,none⟩) f.r.length q)).heap[b]? = Y1.heap[b]?:=fun b hb=>(Yl _ _ _ _ hb).trans ((Yl _ _ _ _ hb).trans (Yl _ _ _ _ hb))
    have hse:(((Y1.setCell ⟨V2.heap.size,0,none⟩ (.slice none 0 0)).setCell ⟨V2.heap.size,1,none⟩ (.slice NA f.a.length nc)).setCell ⟨V2.heap.size,2,none⟩ (.slice (some ⟨T,0,none⟩) f.r.length q)).heap.size=Y1.heap.size:=by simp [World.setCell]
    have hKe:=(hmv w.heap.size (by omega)).trans HKp.out;generalize (((Y1.setCell ⟨V2.heap.size,0,none⟩ (.slice none 0 0)).setCell ⟨V2.heap.size,1,none⟩ (.slice NA f.a.length nc)).setCell ⟨V2.heap.size,2,none⟩ (.slice (some ⟨T,0,none⟩) f.r.length q))=WE at *;replace HKp:=Zh hKe;clear hKe;refine hK.out _ _ (HKp.out) (fun hH=>?_);clear hK K;refine wpAnyH_done (by kernel_rfl) ?_ _;go_wp2_with fail
    go_meet
    have hi:=HI.out;have hn:=HN.out;have hl:=hi.le;have hl1:=hn.le;have hr:=hi.r;have hl2:=hi.l;refine ⟨_,T,NA,nc,q,rfl,HG2.out,hgg,by omega,by omega,by omega,hq1,hq2,?_,?_,hbe⟩
    ·exact (hn.on.move (fun b hb=>hmv b (by omega))).sub (by omega) (fun b hb=>⟨by omega,by omega,by omega,by omega⟩)
    ·exact (hi.row.move (hmv T (by omega)) (fun b hb=>hmv b (by omega))).sub (by omega) (fun b hb=>⟨by omega,by omega,by omega,by omega⟩)
   refine Yc (o:=⟨_,_,_,_,_,_⟩) rfl (fun K hK=>?_) Yd
   go_simp
   have hgs1:(V1.alloc (.cells #[.slice none 0 0,.slice none 0 0,.slice none 0 0] 26)).heap.size<=V1.heap.size+1:=by simp
   have hgs2:V1.heap.size+1<=(V1.alloc (.cells #[.slice none 0 0,.slice none 0 0,.slice none 0 0] 26)).heap.size:=by simp
   have HG:Hid (Blk (V1.alloc (.cells #[.slice none 0 0,.slice none 0 0,.slice none 0 0] 26)) V1.heap.size 26 #[.slice none 0 0,.slice none 0 0,.slice none 0 0]):=Blk.new _ _ _;have hc:=zAE V1 (.cells #[.slice none 0 0,.slice none 0 0,.slice none 0 0] 26)
   try replace HN:=Zh (HN.out.next hc)
   try replace HI:=Zh (HI.out.next hc)
   replace hB:=zAA hB hc;replace HKp:=Zh (HK.out _ hB);clear hc;generalize (V1.alloc (.cells #[.slice none 0 0,.slice none 0 0,.slice none 0 0] 26))=Y2 at *;refine hK.out _ _ (HKp.out) (fun hH=>?_);clear hK K;refine Yj (rs:=[5]) (by kernel_rfl) (by simp) ?_;refine Yc (o:=⟨_,_,_,_,_,_⟩) rfl (fun K hK=>?_) Yd
   go_simp
   refine (HC2.out _ hB).mono ?_;rintro e V6 ⟨va,fsa,rfl,hacc,hc⟩
   obtain ⟨lo2,hlo2⟩:∃n,n=Y2.heap.size:=⟨_,rfl⟩;obtain ⟨hi2,hhi2⟩:∃n,n=V6.heap.size:=⟨_,rfl⟩;obtain ⟨T,q,rfl,ht1,hq1,hq2,hrow⟩:=hacc.row HP.out;have ht2:=hrow.lt;have HI:Hid (zPg lo2 hi2 T V6 f.r):=⟨by omega,by omega,by omega,hrow.sub (by omega) (fun b hb=>⟨by omega,by omega,hb.2.2⟩)⟩;have hs2:=hc.size
   try replace HN:=Zh (HN.out.next hc)
   try replace HG:=Zh (HG.out.next hc)
   replace hB:=zAA hB hc;replace HKp:=Zh (HK.out _ hB);clear hc hacc hrow;go_wp2_with fail
   refine hK.out _ _ (HKp.out) (fun hH=>?_);clear hK K;refine tk (i:=6) (oi:=⟨_,_,_,_,_,_⟩) (v:=?_) rfl (by rfl) ?_ hH ?_;rotate_left
   ·(intro w hSw;obtain ⟨p0,p1,p2⟩:=Blk.cells3 hSw;go_simp;try (with_reducible rfl))
   simp only [Act.put,sT,sZ,sS];refine Yj (rs:=[8]) (by kernel_rfl) (by simp) ?_;refine Yc (o:=⟨_,_,_,_,_,_⟩) rfl (fun K hK=>?_) Yd;obtain ⟨r0,r1,r2⟩:=HG.out.cells3;have f0:=HG.out.frozen 0;have f1:=HG.out.frozen 1;have f2:=HG.out.frozen 2
   go_simp
   clear r0 r1 r2 f0 f1 f2;have hgg:W0.heap.size<=V1.heap.size:=by omega
   have HG2:=Zh (HG.out.set3 (.slice none 0 0) (.slice NA f.a.length nc) (.slice (some ⟨T,0,none⟩) f.r.length q));have hbe:=zAG hB hgg (.slice none 0 0) (.slice NA f.a.length nc) (.slice (some ⟨T,0,none⟩) f.r.length q);have hne:V1.heap.size<lo2\/hi2<=V1.heap.size:=by omega
   have hne1:V1.heap.size<lo1\/hi1<=V1.heap.size:=by omega
   have hmv:∀b,b≠V1.heap.size->(((V6.setCell ⟨V1.heap.size,0,none⟩ (.slice none 0 0)).setCell ⟨V1.heap.size,1,none⟩ (.slice NA f.a.length nc)).setCell ⟨V1.heap.size,2,none⟩ (.slice (some ⟨T,0,none⟩) f.r.length q)).heap[b]? = V6.heap[b]?:=fun b hb=>(Yl _ _ _ _ hb).trans ((Yl _ _ _ _ hb).trans (Yl _ _ _ _ hb))
   have hse:(((V6.setCell ⟨V1.heap.size,0,none⟩ (.slice none 0 0)).setCell ⟨V1.heap.size,1,none⟩ (.slice NA f.a.length nc)).setCell ⟨V1.heap.size,2,none⟩ (.slice (some ⟨T,0,none⟩) f.r.length q)).heap.size=V6.heap.size:=by simp [World.setCell]
   have hKe:=(hmv w.heap.size (by omega)).trans HKp.out;generalize (((V6.setCell ⟨V1.heap.size,0,none⟩ (.slice none 0 0)).setCell ⟨V1.heap.size,1,none⟩ (.slice NA f.a.length nc)).setCell ⟨V1.heap.size,2,none⟩ (.slice (some ⟨T,0,none⟩) f.r.length q))=WE at *;replace HKp:=Zh hKe;clear hKe;refine hK.out _ _ (HKp.out) (fun hH=>?_);clear hK K;refine wpAnyH_done (by kernel_rfl) ?_ _;go_wp2_with fail
   go_meet
   have hi:=HI.out;have hn:=HN.out;have hl:=hi.le;have hl1:=hn.le;have hr:=hi.r;have hl2:=hi.l;refine ⟨_,T,NA,nc,q,rfl,HG2.out,hgg,by omega,by omega,by omega,hq1,hq2,?_,?_,hbe⟩
   ·exact (hn.on.move (fun b hb=>hmv b (by omega))).sub (by omega) (fun b hb=>⟨by omega,by omega,by omega,by omega⟩)
   ·exact (hi.row.move (hmv T (by omega)) (fun b hb=>hmv b (by omega))).sub (by omega) (fun b hb=>⟨by omega,by omega,by omega,by omega⟩)
  refine Yc (o:=⟨_,_,_,_,_,_⟩) rfl (fun K hK=>?_) Yd
  go_simp
  have hgs1:(Wd.alloc (.cells #[.slice none 0 0,.slice none 0 0,.slice none 0 0] 26)).heap.size<=Wd.heap.size+1:=by simp
  have hgs2:Wd.heap.size+1<=(Wd.alloc (.cells #[.slice none 0 0,.slice none 0 0,.slice none 0 0] 26)).heap.size:=by simp
  have HG:Hid (Blk (Wd.alloc (.cells #[.slice none 0 0,.slice none 0 0,.slice none 0 0] 26)) Wd.heap.size 26 #[.slice none 0 0,.slice none 0 0,.slice none 0 0]):=Blk.new _ _ _;have hc:=zAE Wd (.cells #[.slice none 0 0,.slice none 0 0,.slice none 0 0] 26)
  try replace HN:=Zh (HN.out.next hc)
  try replace HI:=Zh (HI.out.next hc)
  replace hB:=zAA hB hc;replace HKp:=Zh (HK.out _ hB);clear hc;generalize (Wd.alloc (.cells #[.slice none 0 0,.slice none 0 0,.slice none 0 0] 26))=Y3 at *;refine hK.out _ _ (HKp.out) (fun hH=>?_);clear hK K;refine Yj (rs:=[2]) (by kernel_rfl) (by simp) ?_;refine Yc (o:=⟨_,_,_,_,_,_⟩) rfl (fun K hK=>?_) Yd
  go_simp
  refine (HC1.out _ hB).mono ?_;rintro e V9 ⟨NA,nc,rfl,hly,hc⟩
  obtain ⟨lo1,hlo1⟩:∃n,n=Y3.heap.size:=⟨_,rfl⟩;obtain ⟨hi1,hhi1⟩:∃n,n=V9.heap.size:=⟨_,rfl⟩;have HN:=Zh (Got.of hly hlo1 hhi1);have hs1:=hc.size
  try replace HI:=Zh (HI.out.next hc)
  try replace HG:=Zh (HG.out.next hc)
  replace hB:=zAA hB hc;replace HKp:=Zh (HK.out _ hB);clear hc hly;go_wp2_with fail
  refine hK.out _ _ (HKp.out) (fun hH=>?_);clear hK K;refine Yj (rs:=[5]) (by kernel_rfl) (by simp) ?_;refine Yc (o:=⟨_,_,_,_,_,_⟩) rfl (fun K hK=>?_) Yd
  go_simp
  refine (HC2.out _ hB).mono ?_;rintro e V10 ⟨va,fsa,rfl,hacc,hc⟩
  obtain ⟨lo2,hlo2⟩:∃n,n=V9.heap.size:=⟨_,rfl⟩;obtain ⟨hi2,hhi2⟩:∃n,n=V10.heap.size:=⟨_,rfl⟩;obtain ⟨T,q,rfl,ht1,hq1,hq2,hrow⟩:=hacc.row HP.out;have ht2:=hrow.lt;have HI:Hid (zPg lo2 hi2 T V10 f.r):=⟨by omega,by omega,by omega,hrow.sub (by omega) (fun b hb=>⟨by omega,by omega,hb.2.2⟩)⟩;have hs2:=hc.size
  try replace HN:=Zh (HN.out.next hc)
  try replace HG:=Zh (HG.out.next hc)
  replace hB:=zAA hB hc;replace HKp:=Zh (HK.out _ hB);clear hc hacc hrow;go_wp2_with fail
  refine hK.out _ _ (HKp.out) (fun hH=>?_);clear hK K;refine tk (i:=6) (oi:=⟨_,_,_,_,_,_⟩) (v:=?_) rfl (by rfl) ?_ hH ?_;rotate_left
  ·(intro w hSw;obtain ⟨p0,p1,p2⟩:=Blk.cells3 hSw;go_simp;try (with_reducible rfl))
  simp only [Act.put,sT,sZ,sS];refine Yj (rs:=[8]) (by kernel_rfl) (by simp) ?_;refine Yc (o:=⟨_,_,_,_,_,_⟩) rfl (fun K hK=>?_) Yd;obtain ⟨r0,r1,r2⟩:=HG.out.cells3;have f0:=HG.out.frozen 0;have f1:=HG.out.frozen 1;have f2:=HG.out.frozen 2
  go_simp
  clear r0 r1 r2 f0 f1 f2;have hgg:W0.heap.size<=Wd.heap.size:=by omega
  have HG2:=Zh (HG.out.set3 (.slice none 0 0) (.slice NA f.a.length nc) (.slice (some ⟨T,0,none⟩) f.r.length q));have hbe:=zAG hB hgg (.slice none 0 0) (.slice NA f.a.length nc) (.slice (some ⟨T,0,none⟩) f.r.length q);have hne:Wd.heap.size<lo2\/hi2<=Wd.heap.size:=by omega
  have hne1:Wd.heap.size<lo1\/hi1<=Wd.heap.size:=by omega
  have hmv:∀b,b≠Wd.heap.size->(((V10.setCell ⟨Wd.heap.size,0,none⟩ (.slice none 0 0)).setCell ⟨Wd.heap.size,1,none⟩ (.slice NA f.a.length nc)).setCell ⟨Wd.heap.size,2,none⟩ (.slice (some ⟨T,0,none⟩) f.r.length q)).heap[b]? = V10.heap[b]?:=fun b hb=>(Yl _ _ _ _ hb).trans ((Yl _ _ _ _ hb).trans (Yl _ _ _ _ hb))
  have hse:(((V10.setCell ⟨Wd.heap.size,0,none⟩ (.slice none 0 0)).setCell ⟨Wd.heap.size,1,none⟩ (.slice NA f.a.length nc)).setCell ⟨Wd.heap.size,2,none⟩ (.slice (some ⟨T,0,none⟩) f.r.length q)).heap.size=V10.heap.size:=by simp [World.setCell]
  have hKe:=(hmv w.heap.size (by omega)).trans HKp.out;generalize (((V10.setCell ⟨Wd.heap.size,0,none⟩ (.slice none 0 0)).setCell ⟨Wd.heap.size,1,none⟩ (.slice NA f.a.length nc)).setCell ⟨Wd.heap.size,2,none⟩ (.slice (some ⟨T,0,none⟩) f.r.length q))=WE at *;replace HKp:=Zh hKe;clear hKe;refine hK.out _ _ (HKp.out) (fun hH=>?_);clear hK K;refine wpAnyH_done (by kernel_rfl) ?_ _;go_wp2_with fail
  go_meet
  have hi:=HI.out;have hn:=HN.out;have hl:=hi.le;have hl1:=hn.le;have hr:=hi.r;have hl2:=hi.l;refine ⟨_,T,NA,nc,q,rfl,HG2.out,hgg,by omega,by omega,by omega,hq1,hq2,?_,?_,hbe⟩
  ·exact (hn.on.move (fun b hb=>hmv b (by omega))).sub (by omega) (fun b hb=>⟨by omega,by omega,by omega,by omega⟩)
  ·exact (hi.row.move (hmv T (by omega)) (fun b hb=>hmv b (by omega))).sub (by omega) (fun b hb=>⟨by omega,by omega,by omega,by omega⟩)
 case rest=>
  obtain ⟨g,T,B,d,q,rfl,hm⟩:=hcut;have HM:=Zh hm;have hbw:=zAA HB0.out hm.b;have kx2:=kx.next hm.b;have HBW:=Zh hbw;have HR0:=Zh (HKR.out.next hm.b);have hg0:=hm.g0;have hG:=hm.blk;have hgl:=hG.lt;have hwl:=hm.b.size;clear hm hbw p0 p1 p2 kx HC1 HC2 HKR;have HG0:=Zh hG;obtain ⟨p0,p1,p2⟩:=kx2.cells3;have HKX:=Zh kx2;clear kx2 hG;go_wp2_with fail
  clear p0 p1 p2
  go_loopw [16] (fun i wr=>∃ (k:Nat) (v:Value) (fs:List (List Value)),k<=xn/\i=.int .i64 k/\Hid (Acc 41 3 RD wc.heap.size wc.heap.size wr v fs (f.c.take k))/\Hid (Blk wr g 26 #[v,.slice B f.a.length d,.slice (some ⟨T,0,none⟩) f.r.length q])/\Hid (KR g wc wr)) (fun i _=>xn - (intOf i).toNat)
  case atStart=>exact ⟨0,_,[],by omega,rfl,Acc.nil _ _ _ (Ya _) _,HG0.out,KR.refl _ _⟩
  case round=>
   obtain ⟨k,v,fs,hk,rfl,HA,HG,HK⟩:=hrel;by_cases hlt:k<xn
   ·obtain ⟨b,off,x,us,rfl,hbl,hd,hk1,hR,hc⟩:=HX1.out.get hlt
    have HBd:=Zh (HX.out.c x (Yk hd));have HT:Hid (f.c.take (k+1)=f.c.take k++[x]):=by unfold Hid;rw [List.take_add_one,hd];rfl
    obtain ⟨A1,n1,c1,rfl,hs1⟩:=hR;have hbr:=HBW.out.trans (HK.out.below (B:=w.heap.size) (by omega) (by omega));have q0:=(hbr.cell (p:=⟨b,off+k*3,none⟩) hbl).trans (hc 0 _ rfl);have q1:=(hbr.cell (p:=⟨b,off+k*3+1,none⟩) hbl).trans (hc 1 _ rfl);have q2:=(hbr.cell (p:=⟨b,off+k*3+2,none⟩) hbl).trans (hc 2 _ rfl);have hb1:=zAE wr (.cells #[.bool x.neg,.slice A1 n1 c1,.int .i64 x.e] 41);have H1:=Zh (fun W (hW:Below (wr.alloc (.cells #[.bool x.neg,.slice A1 n1 c1,.int .i64 x.e] 41)).heap.size (wr.alloc (.cells #[.bool x.neg,.slice A1 n1 c1,.int .i64 x.e] 41)) W)=>zCm [.bool x.neg,.slice A1 n1 c1,.int .i64 x.e] x W ⟨A1,n1,c1,rfl,(hs1.below (zAt hbr hb1 (Ya _))).below hW⟩ HBd.out);have hkx:=Blk.new wr 41 #[.bool x.neg,.slice A1 n1 c1,.int .i64 x.e];have HKd:Hid (∀V,Below (wr.alloc (.cells #[.bool x.neg,.slice A1 n1 c1,.int .i64 x.e] 41)).heap.size (wr.alloc (.cells #[.bool x.neg,.slice A1 n1 c1,.int .i64 x.e] 41)) V->(fun W=>Blk W wr.heap.size 41 #[.bool x.neg,.slice A1 n1 c1,.int .i64 x.e]) V):=fun V hV=>hkx.next hV
    have HB1:=Zh hb1;have hz1:(wr.alloc (.cells #[.bool x.neg,.slice A1 n1 c1,.int .i64 x.e] 41)).heap.size=wr.heap.size+1:=by simp
    have hz2:=Ys hz1;have hz3:=Ys hz1.symm;clear hz1;have hwr:=HK.out.size;clear hc hk1 hd hs1 hb1 hkx hbr;go_wp2_with fail
    clear q0 q1 q2;generalize wr.alloc (.cells #[.bool x.neg,.slice A1 n1 c1,.int .i64 x.e] 41)=W1 at *;have hB:=zBw W1;have hsd1:W1.drew.heap.size<=W1.heap.size:=Ya _;have hsd2:W1.heap.size<=W1.drew.heap.size:=Ya _;have HKp:=Zh (HKd.out _ hB);have HG1:=Zh (HG.out.next (zAA HB1.out hB));have HA1:=Zh (HA.out.keep (zAA HB1.out hB).size (fun b _ hb=>(zAA HB1.out hB).block b hb));have HQ:=Zh ((HK.out.trans (KR.of HB1.out)).trans (KR.of hB));have hown:=fun o ho=>(HA.out.own.lt o ho).2
    have HOWN:=Zh hown;clear hown;refine wp_region_held_drew (S:=(fun W=>Blk W wr.heap.size 41 #[.bool x.neg,.slice A1 n1 c1,.int .i64 x.e])) (by kernel_rfl) (HKp.out) (fun hH=>?_);generalize W1.drew=Wd at *;refine tk (i:=0) (oi:=⟨_,_,_,_,_,_⟩) (v:=?_) rfl (by rfl) ?_ hH ?_;rotate_left
    ·(intro w hSw;obtain ⟨p0,p1,p2⟩:=Blk.cells3 hSw;go_simp;try (with_reducible rfl))
    simp only [Act.put,sT,sZ,sS];refine tk (i:=2) (oi:=⟨_,_,_,_,_,_⟩) (v:=?_) rfl (by rfl) ?_ hH ?_;rotate_left
    ·(intro w hSw;obtain ⟨p0,p1,p2⟩:=Blk.cells3 hSw;go_simp;try (with_reducible rfl))
    simp only [Act.put,sT,sZ,sS];refine Yj (rs:=[1,3]) (by kernel_rfl) (by simp) ?_;refine Yc (o:=⟨_,_,_,_,_,_⟩) rfl (fun K hK=>?_) ?_
    ·obtain ⟨r0,r1,r2⟩:=HG1.out.cells3
     go_simp
     clear r0 r1 r2;refine hK.out _ _ (HKp.out) (fun hH=>?_);clear hK K;refine Yj (rs:=[3]) (by kernel_rfl) (by simp) ?_;refine Yc (o:=⟨_,_,_,_,_,_⟩) rfl (fun K hK=>?_) Yd
     go_simp
     refine (H1.out _ hB).mono ?_;rintro e V2 ⟨NA,nn,nc,rfl,hly,hc⟩
     obtain ⟨lo1,hlo1⟩:∃n,n=Wd.heap.size:=⟨_,rfl⟩;obtain ⟨hi1,hhi1⟩:∃n,n=V2.heap.size:=⟨_,rfl⟩;have HN:=Zh (Got.of hly hlo1 hhi1);have hs1:=hc.size;replace HG1:=Zh (HG1.out.next hc);replace HA1:=Zh (HA1.out.keep hc.size (fun b _ hb=>hc.block b hb));replace HQ:=Zh (HQ.out.trans (KR.of hc));replace hB:=zAA hB hc;replace HKp:=Zh (HKd.out _ hB);clear hc hly;go_wp2_with fail
     refine hK.out _ _ (HKp.out) (fun hH=>?_);clear hK K;refine Yj (rs:=[4]) (by kernel_rfl) (by simp) ?_;refine Yc (o:=⟨_,_,_,_,_,_⟩) rfl (fun K hK=>?_) Yd
     go_simp
     have hges1:(V2.alloc (.cells #[.bool x.neg,.slice NA nn nc,.int .i64 x.e] 41)).heap.size<=V2.heap.size+1:=by simp
     have hges2:V2.heap.size+1<=(V2.alloc (.cells #[.bool x.neg,.slice NA nn nc,.int .i64 x.e] 41)).heap.size:=by simp
     have HNB:Hid (Blk (V2.alloc (.cells #[.bool x.neg,.slice NA nn nc,.int .i64 x.e] 41)) V2.heap.size 41 #[.bool x.neg,.slice NA nn nc,.int .i64 x.e]):=Blk.new _ _ _;have hc:=zAE V2 (.cells #[.bool x.neg,.slice NA nn nc,.int .i64 x.e] 41);replace HN:=Zh (HN.out.next hc);replace HG1:=Zh (HG1.out.next hc);replace HA1:=Zh (HA1.out.keep hc.size (fun b _ hb=>hc.block b hb));replace HQ:=Zh (HQ.out.trans (KR.of hc));replace hB:=zAA hB hc;replace HKp:=Zh (HKd.out _ hB);clear hc;generalize (V2.alloc (.cells #[.bool x.neg,.slice NA nn nc,.int .i64 x.e] 41))=Y1 at *;refine hK.out _ _ (HKp.out) (fun hH=>?_);clear hK K;refine Yj (rs:=[5]) (by kernel_rfl) (by simp) ?_;refine Yc (o:=⟨_,_,_,_,_,_⟩) rfl (fun K hK=>?_) Yd;have HOW:Hid (∀o,_=some o->o<lo1\/hi1<=o):=fun o ho=>.inl (by have:=HOWN.out o ho;omega)
     have hfl:fs.length<=1000:=by have:=HA.out.len;rw [Yr] at this;omega
     have hnl:=HN.out.le;have hqs:=HQ.out.size;refine zGL rfl _ _ 22 rfl 41 3 40 _ zQF rfl (by omega) (by omega) Tryz.underlying22 wc.heap.size wc.heap.size _ fs (f.c.take k) rfl HA1.out ⟨V2.heap.size,0,none⟩ 1 [.bool x.neg,.slice NA nn nc,.int .i64 x.e] x rfl rfl ?c1 ?c2 ?c3 ?c4 lo1 hi1 ?c5 ?c6 HOW.out ?c7 ?_
     case c1=>
      intro j u hj;rw [zEM,Blk.cell HNB.out]
      simpa using hj
     case c2=>intro u hu;simp at hu;rcases hu with rfl | rfl | rfl <;> rfl
     case c3=>omega
     case c4=>omega
     case c5=>omega
     case c6=>omega
     case c7=>exact fun W h1 h2=>⟨NA,nn,nc,rfl,HN.out.on W h1 (fun b hb=>h2 b hb.1 hb.2.1)⟩
     intro v' w3 hacc hb3 hg3;have HA3:=Zh hacc;have hs3:=hb3.size;have HKe:=Zh ((hg3.block wr.heap.size (by omega) (fun e=>by have:=HOWN.out _ e.symm;omega)).trans HKp.out);have HG3:=Zh ((hg3.block g (by omega) (fun e=>by have:=(HA1.out.own.lt _ e.symm).1;omega)).trans HG1.out);have HQ3:=Zh (HQ.out.thenB hb3);clear HKp;have HKp:=HKe;clear hacc hb3 hg3 HKe;refine hK.out _ _ (HKp.out) (fun hH=>?_);clear hK K;refine tk (i:=6) (oi:=⟨_,_,_,_,_,_⟩) (v:=?_) rfl (by rfl) ?_ hH ?_;rotate_left
     ·(intro w hSw;obtain ⟨p0,p1,p2⟩:=Blk.cells3 hSw;go_simp;try (with_reducible rfl))
     simp only [Act.put,sT,sZ,sS];refine Yj (rs:=[7]) (by kernel_rfl) (by simp) ?_;refine Yc (o:=⟨_,_,_,_,_,_⟩) rfl (fun K hK=>?_) Yd;obtain ⟨vA,vn,vc,rfl⟩:=zED HA3.out.own;have hG3:Blk w3 g _ _:=HG3.out;obtain ⟨r0,r1,r2⟩:=hG3.cells3;have f0:=hG3.frozen 0
     go_simp
     clear r0 r1 r2 f0;have HG4:Hid (Blk (w3.setCell ⟨g,0,none⟩ (.slice vA vn vc)) g 26 #[.slice vA vn vc,.slice B f.a.length d,.slice (some ⟨T,0,none⟩) f.r.length q]):=hG3.set_ 0 (.slice vA vn vc);have HA4:=Zh (HA3.out.keep (w':=w3.setCell ⟨g,0,none⟩ (.slice vA vn vc)) (by simp [World.setCell]) (fun b hb _=>Yl _ _ _ _ (by show b≠g;omega)));have HQ4:=Zh (HQ3.out.trans (KR.set 0 (.slice vA vn vc)));have HKe:=Zh ((Yl w3 ⟨g,0,none⟩ (.slice vA vn vc) wr.heap.size (by show wr.heap.size≠g;omega)).trans HKp.out);clear HKp hG3;have HKp:=HKe;clear HKe;generalize w3.setCell ⟨g,0,none⟩ (.slice vA vn vc)=w4 at *;refine hK.out _ _ (HKp.out) (fun hH=>?_);clear hK K;refine wpAnyH_done (by kernel_rfl) ?_ _;go_wp2_with fail
     go_roundw
     case rel=>exact ⟨k+1,_,_,by omega,by go_num,by unfold Hid;rw [HT.out];exact HA4.out,HG4,HQ4⟩
     case measure=>simp [intOf];omega
    refine Yc (o:=⟨_,_,_,_,_,_⟩) rfl (fun K hK=>?_) Yd
    go_simp
    refine (H1.out _ hB).mono ?_;rintro e V6 ⟨NA,nn,nc,rfl,hly,hc⟩
    obtain ⟨lo1,hlo1⟩:∃n,n=Wd.heap.size:=⟨_,rfl⟩;obtain ⟨hi1,hhi1⟩:∃n,n=V6.heap.size:=⟨_,rfl⟩;have HN:=Zh (Got.of hly hlo1 hhi1);have hs1:=hc.size;replace HG1:=Zh (HG1.out.next hc);replace HA1:=Zh (HA1.out.keep hc.size (fun b _ hb=>hc.block b hb));replace HQ:=Zh (HQ.out.trans (KR.of hc));replace hB:=zAA hB hc;replace HKp:=Zh (HKd.out _ hB);clear hc hly;go_wp2_with fail
    refine hK.out _ _ (HKp.out) (fun hH=>?_);clear hK K;refine Yj (rs:=[1,4]) (by kernel_rfl) (by simp) ?_;refine Yc (o:=⟨_,_,_,_,_,_⟩) rfl (fun K hK=>?_) ?_
    ·obtain ⟨r0,r1,r2⟩:=HG1.out.cells3
     go_simp
     clear r0 r1 r2;refine hK.out _ _ (HKp.out) (fun hH=>?_);clear hK K;refine Yj (rs:=[4]) (by kernel_rfl) (by simp) ?_;refine Yc (o:=⟨_,_,_,_,_,_⟩) rfl (fun K hK=>?_) Yd
     go_simp
     have hges1:(V6.alloc (.cells #[.bool x.neg,.slice NA nn nc,.int .i64 x.e] 41)).heap.size<=V6.heap.size+1:=by simp
     have hges2:V6.heap.size+1<=(V6.alloc (.cells #[.bool x.neg,.slice NA nn nc,.int .i64 x.e] 41)).heap.size:=by simp
     have HNB:Hid (Blk (V6.alloc (.cells #[.bool x.neg,.slice NA nn nc,.int .i64 x.e] 41)) V6.heap.size 41 #[.bool x.neg,.slice NA nn nc,.int .i64 x.e]):=Blk.new _ _ _;have hc:=zAE V6 (.cells #[.bool x.neg,.slice NA nn nc,.int .i64 x.e] 41);replace HN:=Zh (HN.out.next hc);replace HG1:=Zh (HG1.out.next hc);replace HA1:=Zh (HA1.out.keep hc.size (fun b _ hb=>hc.block b hb));replace HQ:=Zh (HQ.out.trans (KR.of hc));replace hB:=zAA hB hc;replace HKp:=Zh (HKd.out _ hB);clear hc;generalize (V6.alloc (.cells #[.bool x.neg,.slice NA nn nc,.int .i64 x.e] 41))=Y2 at *;refine hK.out _ _ (HKp.out) (fun hH=>?_);clear hK K;refine Yj (rs:=[5]) (by kernel_rfl) (by simp) ?_;refine Yc (o:=⟨_,_,_,_,_,_⟩) rfl (fun K hK=>?_) Yd;have HOW:Hid (∀o,_=some o->o<lo1\/hi1<=o):=fun o ho=>.inl (by have:=HOWN.out o ho;omega)
     have hfl:fs.length<=1000:=by have:=HA.out.len;rw [Yr] at this;omega
     have hnl:=HN.out.le;have hqs:=HQ.out.size;refine zGL rfl _ _ 22 rfl 41 3 40 _ zQF rfl (by omega) (by omega) Tryz.underlying22 wc.heap.size wc.heap.size _ fs (f.c.take k) rfl HA1.out ⟨V6.heap.size,0,none⟩ 1 [.bool x.neg,.slice NA nn nc,.int .i64 x.e] x rfl rfl ?c1 ?c2 ?c3 ?c4 lo1 hi1 ?c5 ?c6 HOW.out ?c7 ?_
     case c1=>
      intro j u hj;rw [zEM,Blk.cell HNB.out]
      simpa using hj
     case c2=>intro u hu;simp at hu;rcases hu with rfl | rfl | rfl <;> rfl
     case c3=>omega
     case c4=>omega
     case c5=>omega
     case c6=>omega
     case c7=>exact fun W h1 h2=>⟨NA,nn,nc,rfl,HN.out.on W h1 (fun b hb=>h2 b hb.1 hb.2.1)⟩
     intro v' w3 hacc hb3 hg3;have HA3:=Zh hacc;have hs3:=hb3.size;have HKe:=Zh ((hg3.block wr.heap.size (by omega) (fun e=>by have:=HOWN.out _ e.symm;omega)).trans HKp.out);have HG3:=Zh ((hg3.block g (by omega) (fun e=>by have:=(HA1.out.own.lt _ e.symm).1;omega)).trans HG1.out);have HQ3:=Zh (HQ.out.thenB hb3);clear HKp;have HKp:=HKe;clear hacc hb3 hg3 HKe;refine hK.out _ _ (HKp.out) (fun hH=>?_);clear hK K;refine tk (i:=6) (oi:=⟨_,_,_,_,_,_⟩) (v:=?_) rfl (by rfl) ?_ hH ?_;rotate_left
     ·(intro w hSw;obtain ⟨p0,p1,p2⟩:=Blk.cells3 hSw;go_simp;try (with_reducible rfl))
     simp only [Act.put,sT,sZ,sS];refine Yj (rs:=[7]) (by kernel_rfl) (by simp) ?_;refine Yc (o:=⟨_,_,_,_,_,_⟩) rfl (fun K hK=>?_) Yd;obtain ⟨vA,vn,vc,rfl⟩:=zED HA3.out.own;have hG3:Blk w3 g _ _:=HG3.out;obtain ⟨r0,r1,r2⟩:=hG3.cells3;have f0:=hG3.frozen 0
     go_simp
     clear r0 r1 r2 f0;have HG4:Hid (Blk (w3.setCell ⟨g,0,none⟩ (.slice vA vn vc)) g 26 #[.slice vA vn vc,.slice B f.a.length d,.slice (some ⟨T,0,none⟩) f.r.length q]):=hG3.set_ 0 (.slice vA vn vc);have HA4:=Zh (HA3.out.keep (w':=w3.setCell ⟨g,0,none⟩ (.slice vA vn vc)) (by simp [World.setCell]) (fun b hb _=>Yl _ _ _ _ (by show b≠g;omega)));have HQ4:=Zh (HQ3.out.trans (KR.set 0 (.slice vA vn vc)));have HKe:=Zh ((Yl w3 ⟨g,0,none⟩ (.slice vA vn vc) wr.heap.size (by show wr.heap.size≠g;omega)).trans HKp.out);clear HKp hG3;have HKp:=HKe;clear HKe;generalize w3.setCell ⟨g,0,none⟩ (.slice vA vn vc)=w4 at *;refine hK.out _ _ (HKp.out) (fun hH=>?_);clear hK K;refine wpAnyH_done (by kernel_rfl) ?_ _;go_wp2_with fail
     go_roundw
     case rel=>exact ⟨k+1,_,_,by omega,by go_num,by unfold Hid;rw [HT.out];exact HA4.out,HG4,HQ4⟩
     case measure=>simp [intOf];omega
    refine Yc (o:=⟨_,_,_,_,_,_⟩) rfl (fun K hK=>?_) Yd
    go_simp
    have hges1:(V6.alloc (.cells #[.bool x.neg,.slice NA nn nc,.int .i64 x.e] 41)).heap.size<=V6.heap.size+1:=by simp
    have hges2:V6.heap.size+1<=(V6.alloc (.cells #[.bool x.neg,.slice NA nn nc,.int .i64 x.e] 41)).heap.size:=by simp
    have HNB:Hid (Blk (V6.alloc (.cells #[.bool x.neg,.slice NA nn nc,.int .i64 x.e] 41)) V6.heap.size 41 #[.bool x.neg,.slice NA nn nc,.int .i64 x.e]):=Blk.new _ _ _;have hc:=zAE V6 (.cells #[.bool x.neg,.slice NA nn nc,.int .i64 x.e] 41);replace HN:=Zh (HN.out.next hc);replace HG1:=Zh (HG1.out.next hc);replace HA1:=Zh (HA1.out.keep hc.size (fun b _ hb=>hc.block b hb));replace HQ:=Zh (HQ.out.trans (KR.of hc));replace hB:=zAA hB hc;replace HKp:=Zh (HKd.out _ hB);clear hc;generalize (V6.alloc (.cells #[.bool x.neg,.slice NA nn nc,.int .i64 x.e] 41))=Y3 at *;refine hK.out _ _ (HKp.out) (fun hH=>?_);clear hK K;refine Yj (rs:=[1]) (by kernel_rfl) (by simp) ?_;refine Yc (o:=⟨_,_,_,_,_,_⟩) rfl (fun K hK=>?_) Yd;obtain ⟨r0,r1,r2⟩:=HG1.out.cells3
    go_simp
    clear r0 r1 r2;refine hK.out _ _ (HKp.out) (fun hH=>?_);clear hK K;refine Yj (rs:=[5]) (by kernel_rfl) (by simp) ?_;refine Yc (o:=⟨_,_,_,_,_,_⟩) rfl (fun K hK=>?_) Yd;have HOW:Hid (∀o,_=some o->o<lo1\/hi1<=o):=fun o ho=>.inl (by have:=HOWN.out o ho;omega)
    have hfl:fs.length<=1000:=by have:=HA.out.len;rw [Yr] at this;omega
    have hnl:=HN.out.le;have hqs:=HQ.out.size;refine zGL rfl _ _ 22 rfl 41 3 40 _ zQF rfl (by omega) (by omega) Tryz.underlying22 wc.heap.size wc.heap.size _ fs (f.c.take k) rfl HA1.out ⟨V6.heap.size,0,none⟩ 1 [.bool x.neg,.slice NA nn nc,.int .i64 x.e] x rfl rfl ?c1 ?c2 ?c3 ?c4 lo1 hi1 ?c5 ?c6 HOW.out ?c7 ?_
    case c1=>
     intro j u hj;rw [zEM,Blk.cell HNB.out]
     simpa using hj
    case c2=>intro u hu;simp at hu;rcases hu with rfl | rfl | rfl <;> rfl
    case c3=>omega
    case c4=>omega
    case c5=>omega
    case c6=>omega
    case c7=>exact fun W h1 h2=>⟨NA,nn,nc,rfl,HN.out.on W h1 (fun b hb=>h2 b hb.1 hb.2.1)⟩
    intro v' w3 hacc hb3 hg3;have HA3:=Zh hacc;have hs3:=hb3.size;have HKe:=Zh ((hg3.block wr.heap.size (by omega) (fun e=>by have:=HOWN.out _ e.symm;omega)).trans HKp.out);have HG3:=Zh ((hg3.block g (by omega) (fun e=>by have:=(HA1.out.own.lt _ e.symm).1;omega)).trans HG1.out);have HQ3:=Zh (HQ.out.thenB hb3);clear HKp;have HKp:=HKe;clear hacc hb3 hg3 HKe;refine hK.out _ _ (HKp.out) (fun hH=>?_);clear hK K;refine tk (i:=6) (oi:=⟨_,_,_,_,_,_⟩) (v:=?_) rfl (by rfl) ?_ hH ?_;rotate_left
    ·(intro w hSw;obtain ⟨p0,p1,p2⟩:=Blk.cells3 hSw;go_simp;try (with_reducible rfl))
    simp only [Act.put,sT,sZ,sS];refine Yj (rs:=[7]) (by kernel_rfl) (by simp) ?_;refine Yc (o:=⟨_,_,_,_,_,_⟩) rfl (fun K hK=>?_) Yd;obtain ⟨vA,vn,vc,rfl⟩:=zED HA3.out.own;have hG3:Blk w3 g _ _:=HG3.out;obtain ⟨r0,r1,r2⟩:=hG3.cells3;have f0:=hG3.frozen 0
    go_simp
    clear r0 r1 r2 f0;have HG4:Hid (Blk (w3.setCell ⟨g,0,none⟩ (.slice vA vn vc)) g 26 #[.slice vA vn vc,.slice B f.a.length d,.slice (some ⟨T,0,none⟩) f.r.length q]):=hG3.set_ 0 (.slice vA vn vc);have HA4:=Zh (HA3.out.keep (w':=w3.setCell ⟨g,0,none⟩ (.slice vA vn vc)) (by simp [World.setCell]) (fun b hb _=>Yl _ _ _ _ (by show b≠g;omega)));have HQ4:=Zh (HQ3.out.trans (KR.set 0 (.slice vA vn vc)));have HKe:=Zh ((Yl w3 ⟨g,0,none⟩ (.slice vA vn vc) wr.heap.size (by show wr.heap.size≠g;omega)).trans HKp.out);clear HKp hG3;have HKp:=HKe;clear HKe;generalize w3.setCell ⟨g,0,none⟩ (.slice vA vn vc)=w4 at *;refine hK.out _ _ (HKp.out) (fun hH=>?_);clear hK K;refine wpAnyH_done (by kernel_rfl) ?_ _;go_wp2_with fail
    go_roundw
    case rel=>exact ⟨k+1,_,_,by omega,by go_num,by unfold Hid;rw [HT.out];exact HA4.out,HG4,HQ4⟩
    case measure=>simp [intOf];omega
   ·obtain rfl:k=xn:=by omega
    have hmn:f.c.take k=f.c:=Xd (by rw [HL1.out];exact Ya _);rw [hmn] at HA;obtain ⟨A3,c3,rfl,hly⟩:=HA.out.ly;have HLY:=Zh hly;have hkr:=HK.out.blk HR0.out (by omega);obtain ⟨r0,r1,r2⟩:=HG.out.cells3;obtain ⟨y0,y1,y2⟩:=hkr.cells3;have f0:=hkr.frozen 0;have f1:=hkr.frozen 1;have f2:=hkr.frozen 2;have HRR:=Zh hkr;have hwr:=HK.out.size;clear hly hkr;go_wp2_with fail
    refine Yn (zeN Tryz.results91 rfl (HRR.out.set3 _ _ _)) rfl ?_;have hm:=HM.out;have t0:=hm.t0;have tl:=hm.tl;have tne:=hm.ne;have hfin:∀b,w.heap.size+2<=b->(((wr.setCell ⟨w.heap.size+1,0,none⟩ (.slice A3 f.c.length c3)).setCell ⟨w.heap.size+1,1,none⟩ (.slice B f.a.length d)).setCell ⟨w.heap.size+1,2,none⟩ (.slice (some ⟨T,0,none⟩) f.r.length q)).heap[b]? = wr.heap[b]?:=fun b hb=>
     (Yl _ _ _ _ (by show b≠w.heap.size+1;omega)).trans ((Yl _ _ _ _ (by show b≠w.heap.size+1;omega)).trans (Yl _ _ _ _ (by show b≠w.heap.size+1;omega)))
    have hfs:(((wr.setCell ⟨w.heap.size+1,0,none⟩ (.slice A3 f.c.length c3)).setCell ⟨w.heap.size+1,1,none⟩ (.slice B f.a.length d)).setCell ⟨w.heap.size+1,2,none⟩ (.slice (some ⟨T,0,none⟩) f.r.length q)).heap.size=wr.heap.size:=by simp [World.setCell]
    have HFIN:=Zh hfin;have hbe:=zAG (HBW.out.trans (HK.out.below (B:=w.heap.size) (by omega) (by omega))) (show w.heap.size<=w.heap.size+1 by omega) (.slice A3 f.c.length c3) (.slice B f.a.length d) (.slice (some ⟨T,0,none⟩) f.r.length q);clear hfin;generalize (((wr.setCell ⟨w.heap.size+1,0,none⟩ (.slice A3 f.c.length c3)).setCell ⟨w.heap.size+1,1,none⟩ (.slice B f.a.length d)).setCell ⟨w.heap.size+1,2,none⟩ (.slice (some ⟨T,0,none⟩) f.r.length q))=WE at *;have hmove:∀b,W0.heap.size<=b/\b<wc.heap.size/\b≠T/\b≠g->WE.heap[b]? = wc.heap[b]?:=fun b hb=>(HFIN.out b (by omega)).trans (HK.out.block b hb.2.1 hb.2.2.2)
    refine ⟨A3,c3,B,d,T,q,rfl,by omega,by omega,hm.q1,hm.q2,⟨Ya _,?_⟩,⟨Ya _,by omega,by omega,?_⟩,hbe⟩
    ·have e1:=(hm.a.move hmove).sub (E':=WE.heap.size) (F':=fun b=>w.heap.size<=b/\b<WE.heap.size/\b≠T) (by omega) (fun b hb=>⟨by omega,by omega,hb.2.2.1⟩)
     have e2:=HLY.out;exact fun W h1 h2=>⟨e2 W (by omega) (fun b b1 b2=>(h2 b ⟨by omega,by omega,by omega⟩).trans (HFIN.out b (by omega))),e1 W h1 h2⟩
    ·exact (hm.r.move ((HFIN.out T (by omega)).trans (HK.out.block T tl tne)) hmove).sub (by omega) (fun b hb=>⟨by omega,by omega,hb.2.2.1⟩)
end Go.Proofs.YtchkfjgcbbbffaaGreatDoor
end
