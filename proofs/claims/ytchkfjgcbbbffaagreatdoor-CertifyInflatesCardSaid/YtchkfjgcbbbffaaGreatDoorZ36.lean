/- Bundle 36: what the law's walk stands on: S15. -/
import Derived.Test.YtchkfjgcbbbffaaGreatDoorZ33
import Derived.Test.YtchkfjgcbbbffaaGreatDoorZ34
import Derived.Test.YtchkfjgcbbbffaaGreatDoorZ35
set_option maxRecDepth 100000
set_option maxHeartbeats 20000000
set_option linter.all false
noncomputable section
namespace Go.Proofs.YtchkfjgcbbbffaaGreatDoor
open Go.RowKit Pl Go.Shelf
theorem zSU {x:Ct}{b:Int}(hx:LmC x):BdC (zBn x b).1:=by
 unfold zBn
 split
 ·exact zHi
 ·rename_i hv
  split
  ·exact zHi
  ·split
   ·rename_i hk
    exact zRG (zOA (zJd b) (zNz b) hx (by simpa using hv) hk).1
   ·exact zHi
theorem zIp (vs:List Value) (x:Ct) (b:Int) (w:World) (h:RC w vs x) (hg:glo.p w) (hgb:∀b,glo.B b->b<w.heap.size):Calls Tryz.prog 5 #[.agg vs.toArray,.int .i64 b] w (zBW true w):=by
 have hr:=h;obtain ⟨xA,xn,xc,xB,xm,xd,xC,xp,xq,xL,xln,xlc,rfl,-,-,-,-⟩:=h;obtain ⟨lg,hlg⟩:∃lg,hgC x=lg:=⟨_,rfl⟩;have HA:=Zh (fun W (hb:Below w.heap.size w W)=>zEW W (zCq hg hgb hb).1 (zCq hg hgb hb).2);have H1:=Zh (fun W (hb:Below w.heap.size w W)=>zLr _ x W (zAm w W _ _ hr hb));have H2:=Zh (fun (hl:lg=false) W (hb:Below w.heap.size w W)=>zKc _ x b W (zAm w W _ _ hr hb) (zPr (hlg.trans hl)) (zCq hg hgb hb).1.1);have H3:=Zh (fun (hl:lg=false) W (hb:Below w.heap.size w W)=>zKE _ x b W (zAm w W _ _ hr hb) (zPr (hlg.trans hl)));have HT:=Zh (fun W (hb:Below w.heap.size w W)=>(zCq hg hgb hb).1.1);have HLAW:=Zh (zQE (b:=b) (zIz hr));have HBD:=Zh (zSU (b:=b) (zIz hr));rw [hlg] at H1;generalize zBn x b=P at *;obtain ⟨y,k⟩:=P;obtain ⟨xpr,xod,xst,xls⟩:=x;dsimp only at HA H1 H2 H3 HLAW HBD;clear hr hlg hg hgb;have hb0:=zAE w (.cells #[.int .i64 xpr,.int .i64 xod,.slice xA xn xc,.slice xB xm xd,.slice xC xp xq,.slice xL xln xlc] 29);have kx:=Blk.new w 29 #[.int .i64 xpr,.int .i64 xod,.slice xA xn xc,.slice xB xm xd,.slice xC xp xq,.slice xL xln xlc];go_enter Tryz.func5,Tryz.ntmps5
 go_wp2_with fail
 generalize w.alloc (.cells #[.int .i64 xpr,.int .i64 xod,.slice xA xn xc,.slice xB xm xd,.slice xC xp xq,.slice xL xln xlc] 29)=W0 at *;refine (HA.out _ hb0).mono ?_;rintro e w1 ⟨rfl,hb1⟩
 replace kx:=kx.next hb1;replace hb0:=zAA hb0 hb1;clear hb1 HA;obtain ⟨q0,q1,q2,q3,q4,q5⟩:=kx.cells6;go_wp2_with fail
 refine (H1.out _ hb0).mono ?_;rintro e w2 ⟨rfl,hb1⟩
 clear q0 q1 q2 q3 q4 q5;replace kx:=kx.next hb1;replace hb0:=zAA hb0 hb1;clear hb1 H1;cases lg;rotate_left
 ·go_wp2_with fail
  go_ret;exact ⟨rfl,hb0⟩
 replace H2:=Zh (H2.out rfl);replace H3:=Zh (H3.out rfl);obtain ⟨q0,q1,q2,q3,q4,q5⟩:=kx.cells6;go_wp2_with fail
 refine (H2.out _ hb0).mono ?_;rintro e w3 ⟨us,rfl,hu6,hry,hb1⟩
 clear q0 q1 q2 q3 q4 q5 hu6;replace kx:=kx.next hb1;replace hb0:=zAA hb0 hb1;have hry2:=hry;obtain ⟨yA,yn,yc,yB,ym,yd,yC,yp,yq,yL,yln,ylc,rfl,-,-,-,-⟩:=hry2;obtain ⟨ypr,yod,yst,yls⟩:=y;dsimp only at hry HBD HLAW H3;have hb2:=zAE w3 (.cells #[.int .i64 ypr,.int .i64 yod,.slice yA yn yc,.slice yB ym yd,.slice yC yp yq,.slice yL yln ylc] 29);have ky:=Blk.new w3 29 #[.int .i64 ypr,.int .i64 yod,.slice yA yn yc,.slice yB ym yd,.slice yC yp yq,.slice yL yln ylc];replace kx:=kx.next hb2;replace hb0:=zAA hb0 hb2;replace hry:=zAm _ _ _ _ hry hb2;clear hb1 hb2 H2;obtain ⟨q0,q1,q2,q3,q4,q5⟩:=kx.cells6;go_wp2_with fail
 generalize w3.alloc (.cells #[.int .i64 ypr,.int .i64 yod,.slice yA yn yc,.slice yB ym yd,.slice yC yp yq,.slice yL yln ylc] 29)=W1 at *;refine (H3.out _ hb0).mono ?_;rintro e w4 ⟨us2,rfl,hu6,hrz,hb1⟩
 clear q0 q1 q2 q3 q4 q5 hu6;replace ky:=ky.next hb1;replace hb0:=zAA hb0 hb1;replace hry:=zAm _ _ _ _ hry hb1;have hrz2:=hrz;obtain ⟨zA,zn,zc,zB,zm,zd,zC,zp,zq,zL,zln,zlc,rfl,-,-,-,-⟩:=hrz2;dsimp only at hrz;have hb2:=zAE w4 (.cells #[.int .i64 ypr,.int .i64 yod,.slice zA zn zc,.slice zB zm zd,.slice zC zp zq,.slice zL zln zlc] 29);have kz:=Blk.new w4 29 #[.int .i64 ypr,.int .i64 yod,.slice zA zn zc,.slice zB zm zd,.slice zC zp zq,.slice zL zln zlc];replace ky:=ky.next hb2;replace hb0:=zAA hb0 hb2;have HRY:=Zh (zAm _ _ _ _ hry hb2);have HRZ:=Zh (zAm _ _ _ _ hrz hb2);clear hb1 hb2 hry hrz H3 kx;obtain ⟨q0,q1,q2,q3,q4,q5⟩:=ky.cells6;obtain ⟨p0,p1,p2,p3,p4,p5⟩:=kz.cells6;go_wp2_with fail
 generalize w4.alloc (.cells #[.int .i64 ypr,.int .i64 yod,.slice zA zn zc,.slice zB zm zd,.slice zC zp zq,.slice zL zln zlc] 29)=W2 at *;clear q0 q1 q2 q3 q4 q5 p0 p1 p2 p3 p4 p5;refine (zG3 _ _ _ _ k k W2 HRY.out HRZ.out HBD.out HBD.out (HT.out W2 hb0)).mono ?_;rw [HLAW.out];rintro e w5 ⟨rfl,hb1⟩
 have hb9:=zAA hb0 hb1;clear hb1;go_wp2_with fail
 go_ret;exact ⟨rfl,hb9⟩
end Go.Proofs.YtchkfjgcbbbffaaGreatDoor
end
