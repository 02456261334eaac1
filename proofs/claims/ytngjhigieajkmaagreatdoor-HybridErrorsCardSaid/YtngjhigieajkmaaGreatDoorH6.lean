/- Bundle 6: what the law's walk stands on: R3, B1, B2, B3, D1, D2, R4, Math4, D3, D3b. -/
import Derived.Deep.RegionHeld3
import Derived.Test.YtngjhigieajkmaaGreatDoorH5
set_option maxRecDepth 100000
set_option maxHeartbeats 20000000
set_option linter.all false
noncomputable section
namespace Go.Proofs.YtngjhigieajkmaaGreatDoor
open Go.RowKit Pl Go.Shelf
def vld (d:Dy):Bool:=decide ((d.l=[]/\d.neg=false/\d.e=0)\/
 (d.l≠[]/\d.l.length<=256/\d.l.getLast? ≠ some 0/\val d.l%2=1/\zAT (val d.l)<=4096/\-16384<=d.e/\d.e<=16384/\(zAT (val d.l):Int)+d.e<=16384))
theorem zEm (neg:Bool) (x:Int):vld ⟨neg,[],x⟩=(!neg && x == 0):=by
 unfold vld;cases neg
 ·simp only [List.length_nil]
  by_cases h:x=0 <;> simp [h]
 ·simp
theorem zTY {l:List Nat}{x:Nat}(hx:l[0]? = some x):val l%2=x%2:=by
 cases l with
 | nil=>cases hx
 | cons y l=>simp at hx;subst hx;rw [val];omega
theorem zMR {neg:Bool}{l:List Nat}{x:Int}{n x0 xl:Nat}(hn:l.length=n) (h0:l[0]? = some x0) (hl:l[n - 1]? = some xl) :
  vld ⟨neg,l,x⟩=decide (n<=256/\x0%2=1/\xl≠0/\zAT (val l)<=4096/\-16384<=x/\x<=16384/\(zAT (val l):Int)+x<=16384):=by
 have hne:l≠[]:=by rintro rfl;cases h0
 unfold vld;refine Xk.2 ?_;simp only [List.getLast?_eq_getElem?,hn,hl,zTY h0];constructor
 ·rintro (⟨h,_⟩ | ⟨_,h1,h2,h3,h4⟩)
  ·exact absurd h hne
  ·exact ⟨h1,h3,fun e=>h2 (by rw [e]),h4⟩
 ·rintro ⟨h1,h2,h3,h4⟩
  exact .inr ⟨hne,h1,fun e=>h3 (by injection e),h2,h4⟩
theorem zIj {v:Nat}{x:Int}(h:0<v):inR v x=decide (zAT v<=4096/\-16384<=x/\x<=16384/\(zAT v:Int)+x<=16384):=by
 unfold inR;refine Xk.2 ⟨fun hh=>hh.resolve_left (by omega),.inr⟩
theorem zA4 (neg:Bool) (A:Option Addr) (n c:Nat) (l:List Nat) (x:Int) (w:World) (h:SL w A n c l) (hn:n<=100000000) :
  Calls Tryz.prog 19 #[.agg #[.bool neg,.slice A n c,.int .i64 x]] w fun e w'=>e=.returned (.bool (vld ⟨neg,l,x⟩))/\Below w.heap.size w w':=by
 by_cases h0:n=0
 ·have hl:=h.empty h0
  subst h0;subst hl;have HV:=Zh (zEm neg x);cases neg
  ·go_enter Tryz.func19,Tryz.ntmps19
   go_wp2_with fail
   go_ret;exact ⟨by rw [HV.out];simp,(Yp _ _).alloc (Ya _) _⟩
  ·go_enter Tryz.func19,Tryz.ntmps19
   go_wp2_with fail
   go_ret;exact ⟨by rw [HV.out];simp,(Yp _ _).alloc (Ya _) _⟩
 have h0':((n:Int) == 0)=false:=by simp;omega
 have h1:=h.alloc (.cells #[.bool neg,.slice A n c,.int .i64 x] 30);have hlen:=h.len;have hcap:=h.cap;obtain ⟨b,off,x0,rfl,hb,hx,hcell,hlt⟩:=h.get (k:=0) (by omega);obtain ⟨xl,_,hxl,hcelll,hltl⟩:=h.get' (k:=n - 1) (by omega);rw [Nat.add_zero] at hcell;have HV:=Zh (zMR (neg:=neg) (x:=x) hlen hx hxl);have hpos:0<x0->0<val l:=by
  intro hp;cases l with
  | nil=>cases hx
  | cons y l=>simp at hx;subst hx;rw [val];omega
 have HPOS:=Zh hpos;clear hx hxl hlen hpos;by_cases c1:n<=256
 ·by_cases c2:x0%2=1
  ·have c2':((x0:Int)%2 == 1)=true:=by simp;omega
   by_cases c3:xl=0
   ·subst c3
    go_enter Tryz.func19,Tryz.ntmps19
    go_wp2_with fail
    go_ret;exact ⟨by rw [HV.out];simp,(Yp _ _).alloc (Ya _) _⟩
   ·have c3':((xl:Int) != 0)=true:=by simp;omega
    have HR:Hid (inR (val l) x=vld ⟨neg,l,x⟩):=by
     unfold Hid;rw [HV.out,zIj (HPOS.out (by omega))];refine Xk.2 ⟨fun hh=>⟨c1,c2,c3,hh⟩,fun hh=>hh.2.2.2⟩
    clear c2 c3;go_enter Tryz.func19,Tryz.ntmps19
    go_wp2_with (go_at_call 46;refine (zEd neg _ n c l x _ h1 hn).mono ?_;rintro e w' ⟨rfl,rfl⟩;rw [HR.out])
    go_ret;exact ⟨rfl,(Yp _ _).alloc (Ya _) _ |>.alloc (by simp) _⟩
  ·have c2':((x0:Int)%2 == 1)=false:=by simp;omega
   have HF:Hid (vld ⟨neg,l,x⟩=false):=by unfold Hid;rw [HV.out];simp;intro _ h;exact absurd h c2
   clear c2;go_enter Tryz.func19,Tryz.ntmps19
   go_wp2_with fail
   go_ret;exact ⟨by rw [HF.out];rfl,(Yp _ _).alloc (Ya _) _⟩
 ·have HF:Hid (vld ⟨neg,l,x⟩=false):=by unfold Hid;rw [HV.out];simp;intro h;exact absurd h c1
  go_enter Tryz.func19,Tryz.ntmps19
  go_wp2_with fail
  go_ret;exact ⟨by rw [HF.out];rfl,(Yp _ _).alloc (Ya _) _⟩
theorem zEo (x y z:Nat) (w:World) (hx:x<4294967296) (hy:y<4294967296) (hz:z<=1) :
  Calls Tryz.prog 332 #[.int .u32 (x:Int),.int .u32 (y:Int),.int .u32 (z:Int)] w fun e w'=>
   e=.returned (.tuple #[.int .u32 (((x+y+z)%4294967296:Nat):Int),.int .u32 (((x+y+z) / 4294967296:Nat):Int)])/\w=w':=by
 go_enter Tryz.func332,Tryz.ntmps332
 go_wp2
 go_ret2
 refine ⟨?_,rfl⟩;have e1:((x:Int)+y+z)%4294967296=(((x+y+z)%4294967296:Nat):Int):=by omega
 have e2:((x:Int)+y+z) / 4294967296=(((x+y+z) / 4294967296:Nat):Int):=by omega
 show Ending.returned (.tuple #[.int .u32 (((x:Int)+y+z)%4294967296),.int .u32 (((x:Int)+y+z) / 4294967296)])=_
 rw [e1,e2]
def bor (x y z:Nat):Nat:=if x<y+z then 1 else 0
theorem zRF (x y z:Nat):bor x y z<=1:=by unfold bor;split <;> omega
theorem zTV (n:Nat) (h:n<4294967296):n / 2147483648=if n.testBit 31 then 1 else 0:=by
 rw [Nat.testBit_eq_decide_div_mod_eq];by_cases h1:n / 2^31%2=1
 ·simp only [h1,decide_true,if_true];omega
 ·simp only [h1,decide_false];simp;omega
theorem zKi (x y z D:Nat) (hx:x<4294967296) (hy:y<4294967296) (hz:z<=1) (hD:D=(x+4294967296 - y - z)%4294967296) :
  (((4294967295 ^^^ x) &&& y) ||| ((4294967295 ^^^ (x ^^^ y)) &&& D)) / 2147483648=bor x y z:=by
 have hDl:D<4294967296:=by omega
 have h1:((4294967295 ^^^ x) &&& y)<2^32:=Nat.and_lt_two_pow _ (by omega);have h2:((4294967295 ^^^ (x ^^^ y)) &&& D)<2^32:=Nat.and_lt_two_pow _ (by omega);rw [zTV _ (Nat.or_lt_two_pow h1 h2)];rw [Nat.testBit_or,Nat.testBit_and,Nat.testBit_and,Nat.testBit_xor,Nat.testBit_xor,Nat.testBit_xor];have hm:Nat.testBit 4294967295 31=true:=by decide
 rw [hm,Nat.testBit_eq_decide_div_mod_eq,Nat.testBit_eq_decide_div_mod_eq,Nat.testBit_eq_decide_div_mod_eq];unfold bor;by_cases c1:x / 2^31%2=1 <;> by_cases c2:y / 2^31%2=1 <;> by_cases c3:D / 2^31%2=1 <;> simp only [c1,c2,c3,decide_true,decide_false] <;> simp <;> omega
theorem zPv (x y z:Nat) (hx:x<4294967296) (hy:y<4294967296) (hz:z<=1) :
  bits .or .u32 (bits .and .u32 (bits .xor .u32 IntKind.u32.max (x:Int)) (y:Int)) (bits .and .u32 (bits .xor .u32 IntKind.u32.max (bits .xor .u32 (x:Int) (y:Int))) (((x:Int) - y - z)%4294967296)) / 2147483648=((bor x y z:Nat):Int):=by
 have hm:IntKind.u32.max=((4294967295:Nat):Int):=by decide
 have hxy:x ^^^ y<4294967296:=Nat.xor_lt_two_pow (n:=32) hx hy;have h1:4294967295 ^^^ x<4294967296:=Nat.xor_lt_two_pow (n:=32) (by omega) hx;have h2:4294967295 ^^^ (x ^^^ y)<4294967296:=Nat.xor_lt_two_pow (n:=32) (by omega) hxy;have hD:((x:Int) - y - z)%4294967296=(((x+4294967296 - y - z)%4294967296:Nat):Int):=by omega
 have h3:(4294967295 ^^^ x) &&& y<4294967296:=Nat.and_lt_two_pow (n:=32) _ hy;have h4:(4294967295 ^^^ (x ^^^ y)) &&& ((x+4294967296 - y - z)%4294967296)<4294967296:=Nat.and_lt_two_pow (n:=32) _ (by omega);rw [hm,hD,u32_xor_nat _ _ (by omega) hx,u32_and_nat _ _ h1 hy,u32_xor_nat _ _ hx hy,u32_xor_nat _ _ (by omega) hxy,u32_and_nat _ _ h2 (by omega),u32_or_nat _ _ h3 h4,<- zKi x y z _ hx hy hz rfl,Int.natCast_ediv];rfl
theorem zKS (x y z:Nat) (w:World) (hx:x<4294967296) (hy:y<4294967296) (hz:z<=1) :
  Calls Tryz.prog 348 #[.int .u32 (x:Int),.int .u32 (y:Int),.int .u32 (z:Int)] w fun e w'=>
   e=.returned (.tuple #[.int .u32 (((x+4294967296 - y - z)%4294967296:Nat):Int),.int .u32 ((bor x y z:Nat):Int)])/\w=w':=by
 have hsg:IntKind.u32.signed=false:=rfl;have HB:=Zh (zPv x y z hx hy hz);have hD:(((x:Int) - y)%4294967296 - z)%4294967296=(((x+4294967296 - y - z)%4294967296:Nat):Int):=by omega
 have HD:=Zh hD;clear hD;go_enter Tryz.func348,Tryz.ntmps348
 go_wp2
 go_ret2
 refine ⟨?_,rfl⟩
 show Ending.returned (.tuple #[.int .u32 ((((x:Int) - y)%4294967296 - z)%4294967296),.int .u32 (bits .or .u32 (bits .and .u32 (bits .xor .u32 IntKind.u32.max (x:Int)) (y:Int)) (bits .and .u32 (bits .xor .u32 IntKind.u32.max (bits .xor .u32 (x:Int) (y:Int))) (((x:Int) - y - z)%4294967296)) / 2147483648)])=_
 rw [HB.out,HD.out]
theorem zTn (A B:Option Addr) (n c m d:Nat) (l l':List Nat) (w:World) (h:SL w A n c l) (h':SL w B m d l') (hn:n<=1000000) (hmn:m<=n) :
  Calls Tryz.prog 298 #[.slice A n c,.slice B m d] w (zR1 (val l+val l') 1000001 w):=by
 have hcap:=h.cap;have hcap':=h'.cap;have HL:=Zh h.len;have HL':=Zh h'.len;go_enter Tryz.func298,Tryz.ntmps298
 go_wp2_with (at_make;refine zCl rfl (.tmp 19) (.tmp 19) _ 113 rfl zAw Tryz.underlying28 .i64 .i64 _ _ (n+1) (n+1) rfl rfl (by omega) (by omega) (Ya _) (by omega) ?_;intro w1 hr1 hb1 hs1)
 obtain ⟨V,hV⟩:∃V,V=val l+val l':=⟨_,rfl⟩;have HV:=Zh hV;clear hV
 go_loopw [6,23] (fun cy i wr=>∃j z:Nat,j<=n/\i=.int .i64 j/\cy=.int .u32 (z:Int)/\z<=1/\Hid (z=zJJ l l' j)/\Row wr w.heap.size 113 (zEa (n+1) V j)/\Below w.heap.size w wr) (fun _ i _=>n - (intOf i).toNat)
 case atStart=>exact ⟨0,0,Nat.zero_le _,rfl,rfl,by omega,(zGT _ _).symm,by rw [zD8];exact hr1,hb1⟩
 case round=>
  obtain ⟨j,z,hj,rfl,rfl,hz,HZ,hr,hb⟩:=hrel;by_cases hlt:j<n
  ·obtain ⟨b,off,x,rfl,hxb,hx,hcell,hxlt⟩:=(h.below hb).get hlt
   have HX:=Zh (zBE hx);clear hx;have hoc:=hr.cell (zC5 (n:=n+1) (by omega:j<n+1));have hof:=Blk.frozen hr j;by_cases hlast:j<m
   ·obtain ⟨b',off',y,rfl,hyb,hy,hcelly,hylt⟩:=(h'.below hb).get hlast
    have HY:=Zh (zBE hy);clear hy;have HC:Hid ((x+y+z) / 4294967296=zJJ l l' (j+1)):=by unfold Hid;rw [zDd,HX.out,HY.out,<- HZ.out]
    have HG:Hid ((x+y+z)%4294967296=dig V j):=by unfold Hid;rw [HV.out,zFP,HX.out,HY.out,<- HZ.out]
    have hc1:(x+y+z) / 4294967296<=1:=by omega
    go_wp2_with fail
    refine (zEo x y z _ hxlt hylt hz).mono ?_;rintro e w' ⟨rfl,rfl⟩
    generalize (x+y+z) / 4294967296=cc at *;generalize (x+y+z)%4294967296=gg at *;go_wp2_with fail
    have hst:=zBp hr (by omega) hb (Ya _) (gg:Int) (by rw [HG.out])
    go_roundw
    case rel=>exact ⟨j+1,cc,by omega,by go_num,rfl,hc1,HC,hst.1,hst.2⟩
    case measure=>simp [intOf];omega
   ·have HY:Hid (lim l' j=0):=zCB (by rw [HL'.out];omega)
    have HC:Hid ((x+0+z) / 4294967296=zJJ l l' (j+1)):=by unfold Hid;rw [zDd,HX.out,HY.out,<- HZ.out]
    have HG:Hid ((x+0+z)%4294967296=dig V j):=by unfold Hid;rw [HV.out,zFP,HX.out,HY.out,<- HZ.out]
    have hc1:(x+0+z) / 4294967296<=1:=by omega
    go_wp2_with fail
    refine (zEo x 0 z _ hxlt (by omega) hz).mono ?_;rintro e w' ⟨rfl,rfl⟩
    generalize (x+0+z) / 4294967296=cc at *;generalize (x+0+z)%4294967296=gg at *;go_wp2_with fail
    have hst:=zBp hr (by omega) hb (Ya _) (gg:Int) (by rw [HG.out])
    go_roundw
    case rel=>exact ⟨j+1,cc,by omega,by go_num,rfl,hc1,HC,hst.1,hst.2⟩
    case measure=>simp [intOf];omega
  ·obtain rfl:j=n:=by omega
   have hoc:=hr.cell (zC5 (n:=j+1) (by omega:j<j+1));have hof:=Blk.frozen hr j;have HG:Hid (z=dig V j):=by unfold Hid;rw [HV.out,zIP l l' j h.lt h'.lt (by rw [HL.out];omega) (by rw [HL'.out];omega),<- HZ.out]
   go_wp2_with fail
   have hst:=zBp hr (by omega) hb (Ya _) (z:Int) (by rw [<- HG.out]);go_ret;have hr2:=hst.1;rw [zE0] at hr2;refine ⟨_,_,_,_,rfl,hr2.sl (zBg _ _) (zAb _ _) (by omega),?_,by omega,fun _=>⟨_,rfl,Ya _⟩,hst.2⟩;rw [zAy (by rw [HV.out];exact zNX l l' j h.lt h'.lt (by rw [HL.out];omega) (by rw [HL'.out];omega)),HV.out]
theorem add_lt' (A B:Option Addr) (n c m d:Nat) (l l':List Nat) (w:World) (h:SL w A n c l) (h':SL w B m d l') (hn:n<=1000000) (hmn:m<n) :
  Calls Tryz.prog 298 #[.slice B m d,.slice A n c] w (zR1 (val l+val l') 1000001 w):=by
 have hcap:=h.cap;have hcap':=h'.cap;have HL:=Zh h.len;have HL':=Zh h'.len;go_enter Tryz.func298,Tryz.ntmps298
 go_wp2_with (at_make;refine zCl rfl (.tmp 19) (.tmp 19) _ 113 rfl zAw Tryz.underlying28 .i64 .i64 _ _ (n+1) (n+1) rfl rfl (by omega) (by omega) (Ya _) (by omega) ?_;intro w1 hr1 hb1 hs1)
 obtain ⟨V,hV⟩:∃V,V=val l+val l':=⟨_,rfl⟩;have HV:=Zh hV;clear hV
 go_loopw [6,23] (fun cy i wr=>∃j z:Nat,j<=n/\i=.int .i64 j/\cy=.int .u32 (z:Int)/\z<=1/\Hid (z=zJJ l l' j)/\Row wr w.heap.size 113 (zEa (n+1) V j)/\Below w.heap.size w wr) (fun _ i _=>n - (intOf i).toNat)
 case atStart=>exact ⟨0,0,Nat.zero_le _,rfl,rfl,by omega,(zGT _ _).symm,by rw [zD8];exact hr1,hb1⟩
 case round=>
  obtain ⟨j,z,hj,rfl,rfl,hz,HZ,hr,hb⟩:=hrel;by_cases hlt:j<n
  ·obtain ⟨b,off,x,rfl,hxb,hx,hcell,hxlt⟩:=(h.below hb).get hlt
   have HX:=Zh (zBE hx);clear hx;have hoc:=hr.cell (zC5 (n:=n+1) (by omega:j<n+1));have hof:=Blk.frozen hr j;by_cases hlast:j<m
   ·obtain ⟨b',off',y,rfl,hyb,hy,hcelly,hylt⟩:=(h'.below hb).get hlast
    have HY:=Zh (zBE hy);clear hy;have HC:Hid ((x+y+z) / 4294967296=zJJ l l' (j+1)):=by unfold Hid;rw [zDd,HX.out,HY.out,<- HZ.out]
    have HG:Hid ((x+y+z)%4294967296=dig V j):=by unfold Hid;rw [HV.out,zFP,HX.out,HY.out,<- HZ.out]
    have hc1:(x+y+z) / 4294967296<=1:=by omega
    go_wp2_with fail
    refine (zEo x y z _ hxlt hylt hz).mono ?_;rintro e w' ⟨rfl,rfl⟩
    generalize (x+y+z) / 4294967296=cc at *;generalize (x+y+z)%4294967296=gg at *;go_wp2_with fail
    have hst:=zBp hr (by omega) hb (Ya _) (gg:Int) (by rw [HG.out])
    go_roundw
    case rel=>exact ⟨j+1,cc,by omega,by go_num,rfl,hc1,HC,hst.1,hst.2⟩
    case measure=>simp [intOf];omega
   ·have HY:Hid (lim l' j=0):=zCB (by rw [HL'.out];omega)
    have HC:Hid ((x+0+z) / 4294967296=zJJ l l' (j+1)):=by unfold Hid;rw [zDd,HX.out,HY.out,<- HZ.out]
    have HG:Hid ((x+0+z)%4294967296=dig V j):=by unfold Hid;rw [HV.out,zFP,HX.out,HY.out,<- HZ.out]
    have hc1:(x+0+z) / 4294967296<=1:=by omega
    go_wp2_with fail
    refine (zEo x 0 z _ hxlt (by omega) hz).mono ?_;rintro e w' ⟨rfl,rfl⟩
    generalize (x+0+z) / 4294967296=cc at *;generalize (x+0+z)%4294967296=gg at *;go_wp2_with fail
    have hst:=zBp hr (by omega) hb (Ya _) (gg:Int) (by rw [HG.out])
    go_roundw
    case rel=>exact ⟨j+1,cc,by omega,by go_num,rfl,hc1,HC,hst.1,hst.2⟩
    case measure=>simp [intOf];omega
  ·obtain rfl:j=n:=by omega
   have hoc:=hr.cell (zC5 (n:=j+1) (by omega:j<j+1));have hof:=Blk.frozen hr j;have HG:Hid (z=dig V j):=by unfold Hid;rw [HV.out,zIP l l' j h.lt h'.lt (by rw [HL.out];omega) (by rw [HL'.out];omega),<- HZ.out]
   go_wp2_with fail
   have hst:=zBp hr (by omega) hb (Ya _) (z:Int) (by rw [<- HG.out]);go_ret;have hr2:=hst.1;rw [zE0] at hr2;refine ⟨_,_,_,_,rfl,hr2.sl (zBg _ _) (zAb _ _) (by omega),?_,by omega,fun _=>⟨_,rfl,Ya _⟩,hst.2⟩;rw [zAy (by rw [HV.out];exact zNX l l' j h.lt h'.lt (by rw [HL.out];omega) (by rw [HL'.out];omega)),HV.out]
theorem zTS (A B:Option Addr) (n c m d:Nat) (l l':List Nat) (w:World) (h:SL w A n c l) (h':SL w B m d l') (hn:n<=1000000) (hle:val l' <= val l) :
  Calls Tryz.prog 299 #[.slice A n c,.slice B m d] w (zR1 (val l - val l') 1000000 w):=by
 have hT:=h.trim;have hT':=h'.trim;have hNn:(zAa (val l)).length<=n:=by rw [<- h.len];exact zAl l h.lt
 have hMN:(zAa (val l')).length<=(zAa (val l)).length:=by
  rcases Xj (zAa (val l)).length (zAa (val l')).length with h1 | h1
  ·have:=zBo h1;omega
  ·exact h1
 have HLE:Hid (val (zAa (val l'))<=val (zAa (val l))):=by unfold Hid;rw [zAH,zAH];exact hle
 have HV:Hid (val (zAa (val l)) - val (zAa (val l'))=val l - val l'):=by unfold Hid;rw [zAH,zAH]
 generalize hN:(zAa (val l)).length=N at *;generalize hM:(zAa (val l')).length=M at *;have HN:=Zh hN;have HM:=Zh hM;clear hN hM hle;have hcap:=hT.cap;have hcap':=hT'.cap;go_enter Tryz.func299,Tryz.ntmps299
 go_wp2_with fail
 refine (zBU A n c l _ h).mono ?_;rintro e w' ⟨rfl,rfl⟩
 rw [HN.out];go_wp2_with fail
 refine (zBU B m d l' _ h').mono ?_;rintro e w' ⟨rfl,rfl⟩
 rw [HM.out]
 go_wp2_with (at_make;refine zCl rfl (.tmp 15) (.tmp 15) _ 113 rfl zAw Tryz.underlying28 .i64 .i64 _ _ N N rfl rfl (by omega) (by omega) (Ya _) (by omega) ?_;intro w1 hr1 hb1 hs1)
 generalize zAa (val l)=da at *;generalize zAa (val l')=db at *;obtain ⟨V,hV⟩:∃V,V=val da - val db:=⟨_,rfl⟩;have HVV:=Zh hV;clear hV
 go_loopw [6,19] (fun cy i wr=>∃j z:Nat,j<=N/\i=.int .i64 j/\cy=.int .u32 (z:Int)/\z<=1/\Hid (z=zDa da db j)/\Row wr w.heap.size 113 (zEa N V j)/\Below w.heap.size w wr) (fun _ i _=>N - (intOf i).toNat)
 case atStart=>exact ⟨0,0,Nat.zero_le _,rfl,rfl,by omega,(zKT _ _).symm,by rw [zD8];exact hr1,hb1⟩
 case round=>
  obtain ⟨j,z,hj,rfl,rfl,hz,HZ,hr,hb⟩:=hrel;by_cases hlt:j<N
  ·obtain ⟨b,off,x,rfl,hxb,hx,hcell,hxlt⟩:=(hT.below hb).get hlt
   have HX:=Zh (zBE hx);clear hx;have hoc:=hr.cell (zC5 hlt);have hof:=Blk.frozen hr j;by_cases hlast:j<M
   ·obtain ⟨b',off',y,rfl,hyb,hy,hcelly,hylt⟩:=(hT'.below hb).get hlast
    have HY:=Zh (zBE hy);clear hy;have HC:Hid (bor x y z=zDa da db (j+1)):=by unfold Hid;rw [zFJ da db hT.lt hT'.lt,HX.out,HY.out,<- HZ.out];rfl
    have HG:Hid ((x+4294967296 - y - z)%4294967296=dig V j):=by unfold Hid;rw [HVV.out,zLQ da db hT.lt hT'.lt HLE.out,HX.out,HY.out,<- HZ.out]
    have hc1:=zRF x y z;go_wp2_with fail
    refine (zKS x y z _ hxlt hylt hz).mono ?_;rintro e w' ⟨rfl,rfl⟩
    generalize bor x y z=cc at *;generalize (x+4294967296 - y - z)%4294967296=gg at *;go_wp2_with fail
    have hst:=zBp hr (by omega) hb (Ya _) (gg:Int) (by rw [HG.out])
    go_roundw
    case rel=>exact ⟨j+1,cc,by omega,by go_num,rfl,hc1,HC,hst.1,hst.2⟩
    case measure=>simp [intOf];omega
   ·have HY:Hid (lim db j=0):=zCB (by rw [HM.out];omega)
    have HC:Hid (bor x 0 z=zDa da db (j+1)):=by unfold Hid;rw [zFJ da db hT.lt hT'.lt,HX.out,HY.out,<- HZ.out];rfl
    have HG:Hid ((x+4294967296 - 0 - z)%4294967296=dig V j):=by unfold Hid;rw [HVV.out,zLQ da db hT.lt hT'.lt HLE.out,HX.out,HY.out,<- HZ.out]
    have hc1:=zRF x 0 z;go_wp2_with fail
    refine (zKS x 0 z _ hxlt (by omega) hz).mono ?_;rintro e w' ⟨rfl,rfl⟩
    generalize bor x 0 z=cc at *;generalize (x+4294967296 - 0 - z)%4294967296=gg at *;go_wp2_with fail
    have hst:=zBp hr (by omega) hb (Ya _) (gg:Int) (by rw [HG.out])
    go_roundw
    case rel=>exact ⟨j+1,cc,by omega,by go_num,rfl,hc1,HC,hst.1,hst.2⟩
    case measure=>simp [intOf];omega
  ·obtain rfl:j=N:=by omega
   go_wp2_with fail
   go_ret;rw [zE0] at hr;refine ⟨_,_,_,_,rfl,hr.sl (zBg _ _) (zAb _ _) (by omega),?_,by omega,fun _=>⟨_,rfl,Ya _⟩,hb⟩;have hlt:=zB0 da hT.lt;rw [hT.len] at hlt;rw [zAy (by rw [HVV.out];omega),HVV.out,HV.out]
theorem zTa (t:Nat) (h:t<18446744073709551616):IntKind.u64.wrap (t:Int)=(t:Int):=by
 simp only [IntKind.wrap,IntKind.bits,IntKind.signed];simp;omega
theorem zPD {l:List Nat}(h:zAV l) {x z r i:Nat}(hx:lim l i=x) (hz:z=zNC l r i) (hr:r<32) :
  bits .or .u64 (IntKind.u64.wrap ((x:Int)*2^r)) (z:Int)=((2^r*x+z:Nat):Int)/\(2^r*x+z)%4294967296=dig (val l*2^r) i/\(2^r*x+z) / 4294967296=zNC l r (i+1)/\2^r*x+z<18446744073709551616:=by
 have hxl:=zG2 h i;rw [hx] at hxl;have hzl:=zPA l h r i;rw [<- hz] at hzl;have h2:2^r<=2^31:=Xg (by omega) (by omega);have h3:2^r*(x+1)<=2^31*4294967296:=Nat.mul_le_mul h2 hxl;have h4:2^r*(x+1)=2^r*x+2^r:=Nat.mul_succ ..;have e:IntKind.u64.wrap ((x:Int)*2^r)=(x:Int)*2^r:=by
  have e2:((x:Int)*2^r)=((2^r*x:Nat):Int):=by rw [Int.natCast_mul,Int.natCast_pow,Int.mul_comm];rfl
  rw [e2,zTa _ (by omega)]
 rw [e];refine ⟨(zIu z x r hzl (by omega)).1,?_,?_,by omega⟩
 ·rw [zPC,hx,<- hz]
 ·rw [zPB,hx,<- hz]
theorem zTN (A:Option Addr) (n c k:Nat) (l:List Nat) (w:World) (h:SL w A n c l) (hn:n<=1000000) (hk:k<=1000000) :
  Calls Tryz.prog 194 #[.slice A n c,.int .i64 (k:Int)] w (zR1 (val l*2^k) 3000000 w):=by
 have hT:=h.trim;have hNn:(zAa (val l)).length<=n:=by rw [<- h.len];exact zAl l h.lt
 have HVD:=Zh (zAH (val l));generalize hN:(zAa (val l)).length=N at *;have HN:=Zh hN;clear hN;have hcap:=hT.cap;go_enter Tryz.func194,Tryz.ntmps194
 go_wp2_with fail
 refine (zBU A n c l _ h).mono ?_;rintro e w' ⟨rfl,rfl⟩
 rw [HN.out]
 go_wp2_with (at_make;refine zCl rfl (.tmp 13) (.tmp 19) _ 113 rfl zAw Tryz.underlying28 .i64 .i64 _ _ (k / 32) (k / 32+N+1) rfl rfl (by omega) (by omega) (by omega) (by omega) ?_;intro w1 hr1 hb1 hs1)
 generalize zAa (val l)=da at *;have ho1:Own w1 w.heap.size 113 (.slice (some ⟨w.heap.size,0,none⟩) (k / 32) (k / 32+N+1)) (List.replicate (k / 32) 0):=Own.made hr1 (Ya _) (by omega) (by omega);obtain ⟨V,hV⟩:∃V,V=val da*2^(k%32):=⟨_,rfl⟩;have HVV:=Zh hV;clear hV hr1
 go_loopw [5,6,23] (fun v cy i wr=>∃j z:Nat,j<=N/\i=.int .i64 j/\cy=.int .u64 (z:Int)/\z<4294967296/\Hid (z=zNC da (k%32) j)/\Own wr w.heap.size 113 v (List.replicate (k / 32) 0++zDW j V)/\Below w.heap.size w wr) (fun _ _ i _=>N - (intOf i).toNat)
 case atStart=>exact ⟨0,0,Nat.zero_le _,rfl,rfl,by omega,(zKP _ _).symm,by simpa [zDW] using ho1,hb1⟩
 case round=>
  obtain ⟨j,z,hj,rfl,rfl,hz,HZ,hr,hb⟩:=hrel;have hlenr:(List.replicate (k / 32) 0++zDW j V).length=k / 32+j:=by rw [Yu,List.length_replicate,zAb]
  by_cases hlt:j<N
  ·obtain ⟨b,off,x,rfl,hxb,hx,hcell,hxlt⟩:=(hT.below hb).get hlt
   obtain ⟨e1,e2,e3,e4⟩:=zPD hT.lt (zBE hx) HZ.out (show k%32<32 from by omega);rw [<- HVV.out] at e2;have HE2:=Zh e2;have HE3:=Zh e3;have HLR:=Zh hlenr;clear hx e2 e3 hlenr;generalize 2^(k%32)*x+z=s at *;have hs3:s / 4294967296<4294967296:=by omega
   go_wp2_with (at_builtin;refine zAx rfl (.tmp 34) (.tmp 37) _ rfl 113 zAw Tryz.underlying28 w.heap.size _ (List.replicate (k / 32) 0++zDW j V) rfl (hr.alloc _) _ 1 1 [dig V j] rfl (SL.oneI _ _ _ _ (by rw [<- HE2.out];omega) (zC3 _ _)) (by rw [HLR.out];omega) (by have:=hb.size;simp;omega) ?_;intro v1 w2 hown1 hb2)
   rw [List.append_assoc,<- zA9] at hown1;have hbw:=(hb.alloc hb.size _).trans hb2
   go_roundw
   case rel=>exact ⟨j+1,s / 4294967296,by omega,by go_num,by go_num,hs3,HE3,hown1,hbw⟩
   case measure=>simp [intOf];omega
  ·obtain rfl:j=N:=by omega
   have HE2:Hid (z=dig V j):=by unfold Hid;rw [HVV.out,zMH da hT.lt _ j (by omega) (by rw [hT.len];omega),<- HZ.out]
   have HLR:=Zh hlenr;clear hlenr
   go_wp2_with (at_builtin;refine zAx rfl (.tmp 42) (.tmp 45) _ rfl 113 zAw Tryz.underlying28 w.heap.size _ (List.replicate (k / 32) 0++zDW j V) rfl (hr.alloc _) _ 1 1 [dig V j] rfl (SL.oneI _ _ _ _ (by rw [<- HE2.out]) (zC3 _ _)) (by rw [HLR.out];omega) (by have:=hb.size;simp;omega) ?_;intro v1 w2 hown1 hb2)
   rw [List.append_assoc,<- zA9] at hown1;have hbw:=(hb.alloc hb.size _).trans hb2;go_ret;obtain ⟨A1,c1,rfl,hs1,hf1⟩:=hown1.sl ((zCh _).append (zBg _ _));refine ⟨_,_,_,_,rfl,hs1,?_,by rw [Yu,List.length_replicate,zAb];omega,hf1,hbw⟩;rw [zEF,zDR,List.length_replicate,zAy (by rw [HVV.out];exact zRn da hT.lt _ j (by omega) (by rw [hT.len];omega)),HVV.out,HVD.out,zBS,Nat.zero_add,Nat.mul_comm,Yz,<- Nat.pow_add,show k%32+32*(k / 32)=k from by omega]
theorem zQV (A B:Option Addr) (n c m d:Nat) (l l':List Nat) (w:World) (h:SL w A n c l) (h':SL w B m d l') (hn:n<=1000000) (hm:m<=1000000) :
  Calls Tryz.prog 298 #[.slice A n c,.slice B m d] w (zR1 (val l+val l') 1000001 w):=by
 by_cases hmn:m<=n
 ·exact zTn A B n c m d l l' w h h' hn hmn
 ·have:=add_lt' B A m d n c l' l w h' h hm (by omega)
  rw [Nat.add_comm (val l') (val l)] at this;exact this
theorem zNT (A B:Option Addr) (n c m d:Nat) (l l':List Nat) (w:World) (h:SL w A n c l) (h':SL w B m d l') (hn:n<=256) (hm:m<=256) (hs:(zAa (val l+val l')).length<=256) :
  Calls Tryz.prog 229 #[.slice A n c,.slice B m d] w (zTf (zAa (val l+val l')) w):=by
 have hw:=h.alloc (.cells #[.slice A n c,.slice B m d] 28);have hw':=h'.alloc (.cells #[.slice A n c,.slice B m d] 28);have hlb:decide (256<n\/256<m)=false:=by simp;omega
 have HLB:=Zh hlb;clear hlb;go_enter Tryz.func229,Tryz.ntmps229
 go_wp2_with fail
 refine (zIr _ A B n c m d _ (by simp) (by simp)).mono ?_;rintro e w' ⟨rfl,rfl⟩
 rw [HLB.out];go_wp2_with fail
 refine (zQV A B n c m d l l' _ hw hw' (by omega) (by omega)).mono ?_;rintro e w' ⟨A1,n1,c1,l1,rfl,hs1,hv1,_,hf1,hb1⟩
 have hb:Below w.heap.size w w':=zAA (zAE _ _) hb1;have HV:=Zh hv1;clear hv1;have h256':(zAa (val l1)).length<=256:=by rw [HV.out];exact hs
 clear hs;go_wp2_with fail
 refine (zGi A1 n1 c1 l1 _ hs1 h256').mono ?_;rintro e w2 ⟨rfl,hb2⟩
 go_wp2_with fail
 go_ret2
 have hl1:=zAl l1 hs1.lt;have hl2:=hs1.len;rw [<- HV.out];exact ⟨_,_,_,rfl,(hs1.trim.clip).below hb2,(hf1.mono (by simp)).less (by omega),zAA hb hb2⟩
theorem zJO (A B:Option Addr) (n c m d:Nat) (l l':List Nat) (w:World) (h:SL w A n c l) (h':SL w B m d l') (hn:n<=256) (hm:m<=256) (hle:val l' <= val l) :
  Calls Tryz.prog 230 #[.slice A n c,.slice B m d] w (zTf (zAa (val l - val l')) w):=by
 have hw:=h.alloc (.cells #[.slice A n c,.slice B m d] 28);have hw':=h'.alloc (.cells #[.slice A n c,.slice B m d] 28);have hlb:decide (256<n\/256<m)=false:=by simp;omega
 have HLB:=Zh hlb;clear hlb;have hcmp:¬ zCT (val l) (val l')<0:=by
  unfold zCT;rw [if_neg (by omega)]
  split <;> omega
 generalize hz:zCT (val l) (val l')=z at *;have HZ:=Zh hz;clear hz;have hs:(zAa (val l - val l')).length<=256:=zCR h.lt (by rw [h.len];exact hn) (by omega);go_enter Tryz.func230,Tryz.ntmps230
 go_wp2_with fail
 refine (zIr _ A B n c m d _ (by simp) (by simp)).mono ?_;rintro e w' ⟨rfl,rfl⟩
 rw [HLB.out];go_wp2_with fail
 refine (zDN A B n c m d l l' _ hw hw').mono ?_;rintro e w' ⟨rfl,q,rfl⟩
 rw [HZ.out];go_wp2_with fail
 refine (zTS A B n c m d l l' _ (hw.drewN q) (hw'.drewN q) (by omega) hle).mono ?_;rintro e w' ⟨A1,n1,c1,l1,rfl,hs1,hv1,_,hf1,hb1⟩
 have hb:Below w.heap.size w w':=zAA (zAR (zAE _ _) q) hb1;have HV:=Zh hv1;clear hv1;have h256':(zAa (val l1)).length<=256:=by rw [HV.out];exact hs
 clear hs;go_wp2_with fail
 refine (zGi A1 n1 c1 l1 _ hs1 h256').mono ?_;rintro e w2 ⟨rfl,hb2⟩
 go_wp2_with fail
 go_ret2
 have hl1:=zAl l1 hs1.lt;have hl2:=hs1.len;rw [<- HV.out];exact ⟨_,_,_,rfl,(hs1.trim.clip).below hb2,(hf1.mono (by simp)).less (by omega),zAA hb hb2⟩
theorem zRB (A:Option Addr) (n c k:Nat) (l:List Nat) (w:World) (h:SL w A n c l) (hn:n<=256) (hk:k<=65536) (hs:(zAa (val l*2^k)).length<=256) :
  Calls Tryz.prog 135 #[.slice A n c,.int .i64 (k:Int)] w (zTf (zAa (val l*2^k)) w):=by
 have hw:=h.alloc (.cells #[.slice A n c] 28);have h256:¬ 256<n:=by omega
 go_enter Tryz.func135,Tryz.ntmps135
 go_wp2_with fail
 refine (zIq _ A n c _ (by simp)).mono ?_;rintro e w' ⟨rfl,rfl⟩
 go_wp2_with fail
 refine (zTN A n c k l _ hw (by omega) (by omega)).mono ?_;rintro e w' ⟨A1,n1,c1,l1,rfl,hs1,hv1,_,hf1,hb1⟩
 have hb:Below w.heap.size w w':=zAA (zAE _ _) hb1;have HV:=Zh hv1;clear hv1;have h256':(zAa (val l1)).length<=256:=by rw [HV.out];exact hs
 clear hs;go_wp2_with fail
 refine (zGi A1 n1 c1 l1 _ hs1 h256').mono ?_;rintro e w2 ⟨rfl,hb2⟩
 go_wp2_with fail
 go_ret2
 have hl1:=zAl l1 hs1.lt;have hl2:=hs1.len;rw [<- HV.out];exact ⟨_,_,_,rfl,(hs1.trim.clip).below hb2,(hf1.mono (by simp)).less (by omega),zAA hb hb2⟩
theorem zNB (A:Option Addr) (n c k:Nat) (l:List Nat) (w:World) (h:SL w A n c l) (hn:n<=256) (hk:k<=65536) (hs:(zAa (val l*2^k)).length<=256) :
  Calls Tryz.prog 79 #[.slice A n c,.int .i64 (k:Int)] w (zPh (zAa (val l*2^k)) w):=by
 go_enter Tryz.func79,Tryz.ntmps79
 go_wp2_with fail
 refine (zRB A n c k l _ h hn hk hs).mono ?_;rintro e w1 ⟨A1,n1,c1,rfl,hs1,hf1,hb1⟩
 go_wp2_with fail
 go_ret;exact ⟨_,_,_,rfl,hs1,hf1,hb1⟩
def zBP (d:Dy):Int:=if vld d=true/\d.l≠[] then (if d.neg then -1 else 1) else 0
def zMf (d:Dy):Int:=if vld d=true then (zAT (val d.l):Int) else 0
def zCU (d:Dy):Int:=if vld d=true/\d.l≠[] then (zAT (val d.l):Int)+d.e else 0
theorem zAL {w:World}{A:Option Addr}{n c:Nat}{l:List Nat}(h:SL w A n c l):l≠[] ↔ n≠0:=by
 rw [<- h.len];constructor
 ·intro h1 h2;exact h1 (List.eq_nil_of_length_eq_zero h2)
 ·rintro h1 rfl;exact h1 rfl
theorem zNj (neg:Bool) (A:Option Addr) (n c:Nat) (l:List Nat) (x:Int) (w:World) (h:SL w A n c l) (hn:n<=100000000) :
  Calls Tryz.prog 217 #[.agg #[.bool neg,.slice A n c,.int .i64 x]] w fun e w'=>e=.returned (.int .i64 (zMf ⟨neg,l,x⟩))/\Below w.heap.size w w':=by
 have h1:=h.alloc (.cells #[.bool neg,.slice A n c,.int .i64 x] 30);have HB:Hid (zMf ⟨neg,l,x⟩=if vld ⟨neg,l,x⟩=true then (zAT (val l):Int) else 0):=rfl;generalize zMf ⟨neg,l,x⟩=r at *;generalize hv:vld ⟨neg,l,x⟩=v at *;have HV:=Zh hv;clear hv;go_enter Tryz.func217,Tryz.ntmps217
 go_wp2_with fail
 refine (zA4 neg A n c l x _ h1 hn).mono ?_;rintro e w1 ⟨rfl,hb1⟩
 rw [HV.out];obtain ⟨hc,hf⟩:=zF6 hb1;cases v
 ·go_wp2_with fail
  go_ret;exact ⟨by rw [HB.out];rfl,zAA (zAE _ _) hb1⟩
 ·have h2:=h1.below hb1
  go_wp2_with (go_at_call 76;refine (zCF A n c l _ h2 hn).mono ?_;rintro e w' ⟨rfl,rfl⟩)
  go_ret;exact ⟨by rw [HB.out];rfl,zAA (zAE _ _) hb1⟩
theorem zFH (neg:Bool) (A:Option Addr) (n c:Nat) (l:List Nat) (x:Int) (w:World) (h:SL w A n c l) (hn:n<=100000000) :
  Calls Tryz.prog 20 #[.agg #[.bool neg,.slice A n c,.int .i64 x]] w fun e w'=>e=.returned (.int .i64 (zBP ⟨neg,l,x⟩))/\Below w.heap.size w w':=by
 have h1:=h.alloc (.cells #[.bool neg,.slice A n c,.int .i64 x] 30);have HB:Hid (zBP ⟨neg,l,x⟩=if vld ⟨neg,l,x⟩=true/\n≠0 then (if neg then -1 else 1) else 0):=by
  unfold Hid zBP;simp only [zAL h]
 generalize zBP ⟨neg,l,x⟩=r at *;generalize hv:vld ⟨neg,l,x⟩=v at *;have HV:=Zh hv;clear hv;go_enter Tryz.func20,Tryz.ntmps20
 go_wp2_with fail
 refine (zA4 neg A n c l x _ h1 hn).mono ?_;rintro e w1 ⟨rfl,hb1⟩
 rw [HV.out];obtain ⟨hc,hf⟩:=zF6 hb1;cases v
 ·go_wp2_with fail
  go_ret;exact ⟨by rw [HB.out];rfl,zAA (zAE _ _) hb1⟩
 ·by_cases h0:n=0
  ·subst h0
   go_wp2_with fail
   go_ret;exact ⟨by rw [HB.out];rfl,zAA (zAE _ _) hb1⟩
  ·have h0':((n:Int) == 0)=false:=by simp;omega
   have HB2:Hid (r=if neg then -1 else 1):=by unfold Hid;rw [HB.out,if_pos ⟨rfl,h0⟩]
   cases neg
   ·go_wp2_with fail
    go_ret;exact ⟨by rw [HB2.out];rfl,zAA (zAE _ _) hb1⟩
   ·go_wp2_with fail
    go_ret;exact ⟨by rw [HB2.out];rfl,zAA (zAE _ _) hb1⟩
theorem zAU {d:Dy}(h:vld d=true) (hne:d.l≠[]):d.l.length<=256/\zKd d.l/\val d.l%2=1/\zAT (val d.l)<=4096/\-16384<=d.e/\d.e<=16384/\(zAT (val d.l):Int)+d.e<=16384:=by
 unfold vld at h;rcases of_decide_eq_true h with ⟨h,_⟩ | ⟨_,h⟩
 ·exact absurd h hne
 ·exact h
theorem zBB (neg:Bool) (A:Option Addr) (n c:Nat) (l:List Nat) (x:Int) (w:World) (h:SL w A n c l) (hn:n<=100000000) :
  Calls Tryz.prog 77 #[.agg #[.bool neg,.slice A n c,.int .i64 x]] w fun e w'=>e=.returned (.int .i64 (zCU ⟨neg,l,x⟩))/\Below w.heap.size w w':=by
 have h1:=h.alloc (.cells #[.bool neg,.slice A n c,.int .i64 x] 30);have HB:Hid (zCU ⟨neg,l,x⟩=if vld ⟨neg,l,x⟩=true/\n≠0 then (zAT (val l):Int)+x else 0):=by
  unfold Hid zCU;simp only [zAL h]
 have HBD:Hid (vld ⟨neg,l,x⟩=true->n≠0->zAT (val l)<=4096/\-16384<=x/\x<=16384):=fun h1 h2=>by
  have:=zAU h1 ((zAL h).2 h2);exact ⟨this.2.2.2.1,this.2.2.2.2.1,this.2.2.2.2.2.1⟩
 generalize zCU ⟨neg,l,x⟩=r at *;generalize hv:vld ⟨neg,l,x⟩=v at *;have HV:=Zh hv;clear hv;go_enter Tryz.func77,Tryz.ntmps77
 go_wp2_with fail
 refine (zA4 neg A n c l x _ h1 hn).mono ?_;rintro e w1 ⟨rfl,hb1⟩
 rw [HV.out];obtain ⟨hc,hf⟩:=zF6 hb1;cases v
 ·go_wp2_with fail
  go_ret;exact ⟨by rw [HB.out];rfl,zAA (zAE _ _) hb1⟩
 ·by_cases h0:n=0
  ·subst h0
   go_wp2_with fail
   go_ret;exact ⟨by rw [HB.out];rfl,zAA (zAE _ _) hb1⟩
  ·have h0':((n:Int) == 0)=false:=by simp;omega
   have HB2:Hid (r=(zAT (val l):Int)+x):=by unfold Hid;rw [HB.out,if_pos ⟨rfl,h0⟩]
   obtain ⟨hb3,hb4,hb5⟩:=HBD.out rfl h0;have h2:=h1.below hb1;generalize hN:zAT (val l)=N at *;have HN:=Zh hN;clear hN;have c0:=hc w.heap.size 1 (by simp);have c1:=hc w.heap.size 2 (by simp);simp at c0 c1;have hw:IntKind.i64.wrap ((N:Int)+x)=(N:Int)+x:=IntWalk.i64_in _ (by omega);have HQ:Hid (∀q,Calls Tryz.prog 76 #[.slice A n c] (w1.drewN q) fun e w'=>e=.returned (.int .i64 (N:Int))/\w' = w1.drewN q):=fun q=>by
    have:=zCF A n c l _ (h2.drewN q) hn;rw [HN.out] at this;exact this.mono (fun e w' ⟨he,hw⟩=>⟨he,hw.symm⟩)
   go_wp2_with fail
   go_quiet ((go_at_call 76;exact Calls.quiet_of_same (HQ.out _)))
   go_wp2_with fail
   go_ret;exact ⟨by rw [HB2.out];rfl,zAR (zAA (zAE _ _) hb1) _⟩
theorem zMv {B g:Nat}{W W':World}{a b c:Value}(hb:Below B W W') (hg:g<B) (h:W.cell? ⟨g,0,none⟩=some a/\W.cell? ⟨g,1,none⟩=some b/\W.cell? ⟨g,2,none⟩=some c) :
  W'.cell? ⟨g,0,none⟩=some a/\W'.cell? ⟨g,1,none⟩=some b/\W'.cell? ⟨g,2,none⟩=some c:=
 ⟨(hb.cell (p:=⟨g,0,none⟩) hg).trans h.1,(hb.cell (p:=⟨g,1,none⟩) hg).trans h.2.1,(hb.cell (p:=⟨g,2,none⟩) hg).trans h.2.2⟩
theorem Blk.cells3 {w:World}{g:Nat}{t:TypeId}{a b c:Value}(h:Blk w g t #[a,b,c]):w.cell? ⟨g,0,none⟩=some a/\w.cell? ⟨g,1,none⟩=some b/\w.cell? ⟨g,2,none⟩=some c:=
 ⟨by rw [h.cell 0];rfl,by rw [h.cell 1];rfl,by rw [h.cell 2];rfl⟩
def zEL (d:Dy):Dy:=if vld d=true/\d.l≠[] then ⟨!d.neg,d.l,d.e⟩ else zAZ
def zTh (d:Dy):Dy:=if vld d=true/\d.l≠[] then ⟨false,d.l,d.e⟩ else zAZ
theorem zL2 (neg:Bool) (A:Option Addr) (n c:Nat) (l:List Nat) (x:Int) (w:World) (h:SL w A n c l) (hn:n<=100000000) :
  Calls Tryz.prog 58 #[.agg #[.bool neg,.slice A n c,.int .i64 x]] w (zNV (zEL ⟨neg,l,x⟩) w):=by
 have h1:=(h.alloc (.cells #[.bool neg,.slice A n c,.int .i64 x] 30)).alloc (.cells #[.bool false,.slice none 0 0,.int .i64 0] 30);have HB:Hid (zEL ⟨neg,l,x⟩=if vld ⟨neg,l,x⟩=true/\n≠0 then ⟨!neg,l,x⟩ else zAZ):=by
  unfold Hid zEL;simp only [zAL h]
 generalize zEL ⟨neg,l,x⟩=r at *;generalize hv:vld ⟨neg,l,x⟩=v at *;have HV:=Zh hv;clear hv;go_enter Tryz.func58,Tryz.ntmps58
 go_wp2_with fail
 refine (zA4 neg A n c l x _ h1 hn).mono ?_;rintro e w1 ⟨rfl,hb1⟩
 rw [HV.out];obtain ⟨hc,hf⟩:=zF6 hb1;have hsz:w.heap.size+2<=w1.heap.size:=by simpa using hb1.size
 have hB0:=(Blk.new (w.alloc (.cells #[.bool neg,.slice A n c,.int .i64 x] 30)) 30 #[.bool false,.slice none 0 0,.int .i64 0]).below hb1 (by simp);rw [World.size_alloc] at hB0;have hBa:=((Blk.new w 30 #[.bool neg,.slice A n c,.int .i64 x]).alloc (.cells #[.bool false,.slice none 0 0,.int .i64 0] 30)).below hb1 (by simp <;> omega);have hbw:=(((zAE w (.cells #[.bool neg,.slice A n c,.int .i64 x] 30)).alloc (by simp) (.cells #[.bool false,.slice none 0 0,.int .i64 0] 30))).trans (hb1.mono (by simp <;> omega));cases v
 ·go_wp2_with fail
  refine Yn (zHV Tryz.results58 rfl (hB0.set3 _ _ _)) rfl ?_;rw [HB.out];exact ⟨none,0,0,rfl,SL.nil _,zAn.zero,zAG hbw (by simp) _ _ _⟩
 ·by_cases h0:n=0
  ·subst h0
   go_wp2_with fail
   refine Yn (zHV Tryz.results58 rfl (hB0.set3 _ _ _)) rfl ?_;rw [HB.out];exact ⟨none,0,0,rfl,SL.nil _,zAn.zero,zAG hbw (by simp) _ _ _⟩
  ·have h0':((n:Int) == 0)=false:=by simp;omega
   have HB2:Hid (r=⟨!neg,l,x⟩):=by unfold Hid;rw [HB.out,if_pos ⟨rfl,h0⟩]
   have h2:=h1.below hb1;have hS:=hBa.cells3;clear hc hf;obtain ⟨s0,s1,s2⟩:=hS;go_wp2_with fail
   go_region_held3 (fun W=>W.cell? ⟨w.heap.size,0,none⟩=some (.bool neg)/\W.cell? ⟨w.heap.size,1,none⟩=some (.slice A n c)/\W.cell? ⟨w.heap.size,2,none⟩=some (.int .i64 x))
    (first | exact ⟨s0,s1,s2⟩ | exact zMv hb3 (by simp;omega) ⟨s0,s1,s2⟩ | exact zMv (zAG (B:=w.heap.size+1) (Yp _ _) (Ya _) _ _ _) (by omega) (zMv hb3 (by simp;omega) ⟨s0,s1,s2⟩))
    (first | (go_at_call 105;refine (zDj A n c l _ h2.drew (by omega)).mono ?_;rintro e w3 ⟨A3,n3,c3,rfl,hs3,hf3,hb3⟩;have hB3:=hB0.drew.below hb3 (by simp;omega);obtain ⟨t0,t1,t2⟩:=hB3.cells3;have f0:=hB3.frozen 0;have f1:=hB3.frozen 1;have f2:=hB3.frozen 2))
   go_wp2_with fail
   refine Yn (zHV Tryz.results58 rfl (hB3.set3 _ _ _)) rfl ?_;rw [HB2.out];have hbw3:=zAA (zAR hbw 1) hb3;have hlt:w.heap.size+1<w1.drew.heap.size:=by simp;omega
   exact ⟨A3,n3,c3,rfl,(((hs3.far hf3 hlt 0 _).far hf3 hlt 1 _).far hf3 hlt 2 _),hf3.mono (by simp;omega),zAG hbw3 (by omega) _ _ _⟩
theorem zPp (neg:Bool) (A:Option Addr) (n c:Nat) (l:List Nat) (x:Int) (w:World) (h:SL w A n c l) (hn:n<=100000000) :
  Calls Tryz.prog 178 #[.agg #[.bool neg,.slice A n c,.int .i64 x]] w (zNV (zTh ⟨neg,l,x⟩) w):=by
 have h1:=(h.alloc (.cells #[.bool neg,.slice A n c,.int .i64 x] 30)).alloc (.cells #[.bool false,.slice none 0 0,.int .i64 0] 30);have HB:Hid (zTh ⟨neg,l,x⟩=if vld ⟨neg,l,x⟩=true/\n≠0 then ⟨false,l,x⟩ else zAZ):=by
  unfold Hid zTh;simp only [zAL h]
 generalize zTh ⟨neg,l,x⟩=r at *;generalize hv:vld ⟨neg,l,x⟩=v at *;have HV:=Zh hv;clear hv;go_enter Tryz.func178,Tryz.ntmps178
 go_wp2_with fail
 refine (zA4 neg A n c l x _ h1 hn).mono ?_;rintro e w1 ⟨rfl,hb1⟩
 rw [HV.out];obtain ⟨hc,hf⟩:=zF6 hb1;have hsz:w.heap.size+2<=w1.heap.size:=by simpa using hb1.size
 have hB0:=(Blk.new (w.alloc (.cells #[.bool neg,.slice A n c,.int .i64 x] 30)) 30 #[.bool false,.slice none 0 0,.int .i64 0]).below hb1 (by simp);rw [World.size_alloc] at hB0;have hBa:=((Blk.new w 30 #[.bool neg,.slice A n c,.int .i64 x]).alloc (.cells #[.bool false,.slice none 0 0,.int .i64 0] 30)).below hb1 (by simp <;> omega);have hbw:=(((zAE w (.cells #[.bool neg,.slice A n c,.int .i64 x] 30)).alloc (by simp) (.cells #[.bool false,.slice none 0 0,.int .i64 0] 30))).trans (hb1.mono (by simp <;> omega));cases v
 ·go_wp2_with fail
  refine Yn (zHV Tryz.results178 rfl (hB0.set3 _ _ _)) rfl ?_;rw [HB.out];exact ⟨none,0,0,rfl,SL.nil _,zAn.zero,zAG hbw (by simp) _ _ _⟩
 ·by_cases h0:n=0
  ·subst h0
   go_wp2_with fail
   refine Yn (zHV Tryz.results178 rfl (hB0.set3 _ _ _)) rfl ?_;rw [HB.out];exact ⟨none,0,0,rfl,SL.nil _,zAn.zero,zAG hbw (by simp) _ _ _⟩
  ·have h0':((n:Int) == 0)=false:=by simp;omega
   have HB2:Hid (r=⟨false,l,x⟩):=by unfold Hid;rw [HB.out,if_pos ⟨rfl,h0⟩]
   have h2:=h1.below hb1;have hS:=hBa.cells3;clear hc hf;obtain ⟨s0,s1,s2⟩:=hS;go_wp2_with fail
   go_region_held3 (fun W=>W.cell? ⟨w.heap.size,0,none⟩=some (.bool neg)/\W.cell? ⟨w.heap.size,1,none⟩=some (.slice A n c)/\W.cell? ⟨w.heap.size,2,none⟩=some (.int .i64 x))
    (first | exact ⟨s0,s1,s2⟩ | exact zMv hb3 (by simp;omega) ⟨s0,s1,s2⟩ | exact zMv (zAG (B:=w.heap.size+1) (Yp _ _) (Ya _) _ _ _) (by omega) (zMv hb3 (by simp;omega) ⟨s0,s1,s2⟩))
    (first | (go_at_call 105;refine (zDj A n c l _ h2.drew (by omega)).mono ?_;rintro e w3 ⟨A3,n3,c3,rfl,hs3,hf3,hb3⟩;have hB3:=hB0.drew.below hb3 (by simp;omega);obtain ⟨t0,t1,t2⟩:=hB3.cells3;have f0:=hB3.frozen 0;have f1:=hB3.frozen 1;have f2:=hB3.frozen 2))
   go_wp2_with fail
   refine Yn (zHV Tryz.results178 rfl (hB3.set3 _ _ _)) rfl ?_;rw [HB2.out];have hbw3:=zAA (zAR hbw 1) hb3;have hlt:w.heap.size+1<w1.drew.heap.size:=by simp;omega
   exact ⟨A3,n3,c3,rfl,(((hs3.far hf3 hlt 0 _).far hf3 hlt 1 _).far hf3 hlt 2 _),hf3.mono (by simp;omega),zAG hbw3 (by omega) _ _ _⟩
theorem zCb {neg:Bool}{v:Nat}{x:Int}(h:0<v):zAN neg v x=⟨neg,zAa (v / 2^tz v),x+tz v⟩:=by unfold zAN;rw [if_neg (by omega)];rfl
theorem zKW {neg:Bool}{v:Nat}{x:Int}(h:0<v):val (zAN neg v x).l=zL5 v:=by rw [zCb h];exact zAH _
theorem zAP (n k:Nat) (h:zAT n<=32*k):(zAa n).length<=k:=
 zBQ n k (by rw [zBS];exact Yh (zBu n) (Xg (by omega) h))
def zDB (neg neg':Bool) (P Q:Nat) (e:Int):Dy×Int:=if neg=neg' then zAu neg (P+Q) e else if P<Q then zAu neg' (Q - P) e else zAu neg (P - Q) e
theorem tz_odd' {n:Nat}(h:n%2=1):tz n=0/\zL5 n=n:=by
 have h0:tz n=0:=zPX (m:=n / 2) (by omega);exact ⟨h0,by unfold zL5;rw [h0];simp⟩
theorem zDi (neg:Bool) (v:Nat) (e:Int) (ho:v%2=1) (hb:4096<zAT v):zAu neg v e=(zAZ,9):=by
 have hp:0<v:=by omega
 unfold zAu;rw [zKW hp,(tz_odd' ho).2];have:inR v (zAN neg v e).e=false:=by
  rw [zIj hp];exact Ye (fun h=>by omega)
 rw [this];rfl
theorem zQi (k:Nat) (h:0<k):2^k%2=0:=by
 obtain ⟨j,rfl⟩:∃j,k=j+1:=⟨k - 1,by omega⟩;rw [Xi];omega
theorem zFz (v k:Nat) (h:0<k):v*2^k%2=0:=by
 rw [Nat.mul_mod,zQi k h];simp
theorem zHm {P Q:Nat}(h:zAT Q+1<zAT P):zAT P<=zAT (P - Q)+1/\zAT P<=zAT (P+Q)/\Q<P:=by
 have h1:=zBu Q;have hP:0<P:=by
  rcases Xm P with rfl | h0
  ·rw [zJT] at h;omega
  ·exact h0
 have h2:=zDL P hP;obtain ⟨t,ht⟩:∃t,zAT P=zAT Q+2+t:=⟨zAT P - (zAT Q+2),by omega⟩;rw [ht,show zAT Q+2+t - 1=zAT Q+1+t from by omega] at h2;have e:2^(zAT Q+1+t)=2*2^(zAT Q+t):=by rw [show zAT Q+1+t=(zAT Q+t)+1 from by omega,Xi,Nat.mul_comm]
 have e2:2^zAT Q<=2^(zAT Q+t):=Xg (by omega) (by omega);refine ⟨?_,?_,by omega⟩
 ·have:=zC8 (P - Q) (zAT Q+t) (by omega)
  omega
 ·have:=zC8 (P+Q) (zAT Q+1+t) (by omega)
  omega
theorem zP5 {P Q k:Nat}{v:Nat}(hP:P=v*2^k) (hQo:Q%2=1) (hk:0<k) (h:zAT Q+1<zAT P) (hbig:4097<zAT P) (neg neg':Bool) (e:Int):zDB neg neg' P Q e=(zAZ,9):=by
 obtain ⟨h1,h2,h3⟩:=zHm h;have hPe:P%2=0:=by rw [hP];exact zFz v k hk
 unfold zDB
 split
 ·exact zDi _ _ _ (by omega) (by omega)
 ·rw [if_neg (by omega)]
  exact zDi _ _ _ (by omega) (by omega)
theorem zP4 {P Q k:Nat}{v:Nat}(hQ:Q=v*2^k) (hPo:P%2=1) (hk:0<k) (h:zAT P+1<zAT Q) (hbig:4097<zAT Q) (neg neg':Bool) (e:Int):zDB neg neg' P Q e=(zAZ,9):=by
 obtain ⟨h1,h2,h3⟩:=zHm h;have hPe:Q%2=0:=by rw [hQ];exact zFz v k hk
 unfold zDB
 split
 ·rw [Nat.add_comm];exact zDi _ _ _ (by omega) (by omega)
 ·exact zDi _ _ _ (by omega) (by omega)
theorem zPR {a b:Nat}{x x' mn:Int}(ha:a%2=1) (hb:b%2=1) (ha2:zAT a<=4096) (hb2:zAT b<=4096) (hmn:min x x' = mn) (hmax:4097<max ((zAT a:Int)+x) ((zAT b:Int)+x') - mn)
  (hd:1<((zAT a:Int)+x) - ((zAT b:Int)+x')\/1<((zAT b:Int)+x') - ((zAT a:Int)+x)) (neg neg':Bool) :
  zDB neg neg' (a*2^(x - mn).toNat) (b*2^(x' - mn).toNat) mn=(zAZ,9):=by
 have e1:=zAc a (x - mn).toNat (by omega);have e2:=zAc b (x' - mn).toNat (by omega);rcases Int.lt_trichotomy x x' with h | h | h
 ·obtain rfl:mn=x:=by omega
  rw [show (mn - mn).toNat=0 from by omega,Nat.pow_zero,Nat.mul_one] at e1 ⊢;exact zP4 rfl ha (by omega) (by omega) (by omega) neg neg' mn
 ·subst h
  omega
 ·obtain rfl:mn=x':=by omega
  rw [show (mn - mn).toNat=0 from by omega,Nat.pow_zero,Nat.mul_one] at e2 ⊢;exact zP5 rfl hb (by omega) (by omega) (by omega) neg neg' mn
theorem zNO (w:World) (t:TypeId) (a b c:Array Value) :
  Blk (((w.alloc (.cells a t)).alloc (.cells b t)).alloc (.cells c t)) w.heap.size t a/\Blk (((w.alloc (.cells a t)).alloc (.cells b t)).alloc (.cells c t)) (w.heap.size+1) t b/\
  Blk (((w.alloc (.cells a t)).alloc (.cells b t)).alloc (.cells c t)) (w.heap.size+1+1) t c/\(((w.alloc (.cells a t)).alloc (.cells b t)).alloc (.cells c t)).heap.size=w.heap.size+1+1+1/\
  Below w.heap.size w (((w.alloc (.cells a t)).alloc (.cells b t)).alloc (.cells c t)):=by
 refine ⟨((Blk.new w t a).alloc _).alloc _,?_,?_,by simp,((zAE _ _).alloc (by simp) _).alloc (by simp <;> omega) _⟩
 ·have:=(Blk.new (w.alloc (.cells a t)) t b).alloc (.cells c t)
  rwa [World.size_alloc] at this
 ·have:=Blk.new ((w.alloc (.cells a t)).alloc (.cells b t)) t c
  rwa [World.size_alloc,World.size_alloc] at this
theorem zCn {B g g':Nat}{W W':World}{a b c a' b' c':Value}(hb:Below B W W') (hg:g<B) (hg':g' < B) (h:W.cell? ⟨g,0,none⟩=some a/\W.cell? ⟨g,1,none⟩=some b/\W.cell? ⟨g,2,none⟩=some c/\W.cell? ⟨g',0,none⟩=some a'/\W.cell? ⟨g',1,none⟩=some b'/\W.cell? ⟨g',2,none⟩=some c') :
  W'.cell? ⟨g,0,none⟩=some a/\W'.cell? ⟨g,1,none⟩=some b/\W'.cell? ⟨g,2,none⟩=some c/\W'.cell? ⟨g',0,none⟩=some a'/\W'.cell? ⟨g',1,none⟩=some b'/\W'.cell? ⟨g',2,none⟩=some c':=by
 obtain ⟨h0,h1,h2,h3,h4,h5⟩:=h;exact ⟨(hb.cell (p:=⟨g,0,none⟩) hg).trans h0,(hb.cell (p:=⟨g,1,none⟩) hg).trans h1,(hb.cell (p:=⟨g,2,none⟩) hg).trans h2,(hb.cell (p:=⟨g',0,none⟩) hg').trans h3,(hb.cell (p:=⟨g',1,none⟩) hg').trans h4,(hb.cell (p:=⟨g',2,none⟩) hg').trans h5⟩
theorem zGV {P Q k:Nat}(h1:zAT P<=k) (h2:zAT Q<=k):zAT (P+Q)<=k+1:=by
 refine zBH _ _ ?_;have e1:=Yh (zBu P) (Xg (n:=2) (by omega) h1);have e2:=Yh (zBu Q) (Xg (n:=2) (by omega) h2);rw [Xi];omega
theorem zAs (A:Option Addr) (n c k:Nat) (z:Int) (l:List Nat) (w:World) (h:SL w A n c l) (hn:n<=256) (hz:z=(k:Int)) (hk:k<=65536) (hs:(zAa (val l*2^k)).length<=256) :
  Calls Tryz.prog 79 #[.slice A n c,.int .i64 z] w (zPh (zAa (val l*2^k)) w):=by
 subst hz;exact zNB A n c k l w h hn hk hs
theorem zEf {B g g':Nat}{W W':World}{b c b' c':Value}(hb:Below B W W') (hg:g<B) (hg':g' < B) (h:W.cell? ⟨g,1,none⟩=some b/\W.cell? ⟨g,2,none⟩=some c/\W.cell? ⟨g',1,none⟩=some b'/\W.cell? ⟨g',2,none⟩=some c') :
  W'.cell? ⟨g,1,none⟩=some b/\W'.cell? ⟨g,2,none⟩=some c/\W'.cell? ⟨g',1,none⟩=some b'/\W'.cell? ⟨g',2,none⟩=some c':=by
 obtain ⟨h0,h1,h2,h3⟩:=h;exact ⟨(hb.cell (p:=⟨g,1,none⟩) hg).trans h0,(hb.cell (p:=⟨g,2,none⟩) hg).trans h1,(hb.cell (p:=⟨g',1,none⟩) hg').trans h2,(hb.cell (p:=⟨g',2,none⟩) hg').trans h3⟩
theorem zI8 (neg neg':Bool) (A B:Option Addr) (n c m d:Nat) (l l':List Nat) (x x' mn:Int) (w:World) (h:SL w A n c l) (h':SL w B m d l') (ht:zBx w)
  (hv:vld ⟨neg,l,x⟩=true) (hv':vld ⟨neg',l',x'⟩=true) (hne:n≠0) (hne':m≠0) (hmn:min x x' = mn) (he:4097<max ((zAT (val l):Int)+x) ((zAT (val l'):Int)+x') - mn/\(1<((zAT (val l):Int)+x) - ((zAT (val l'):Int)+x')\/1<((zAT (val l'):Int)+x') - ((zAT (val l):Int)+x))) :
  Calls Tryz.prog 177 #[.agg #[.bool neg,.slice A n c,.int .i64 x],.agg #[.bool neg',.slice B m d,.int .i64 x']] w (zJI zAZ 9 w):=by
 obtain ⟨b1,b2,b3,b4,b5,b6,b7⟩:=zAU hv ((zAL h).2 hne);obtain ⟨b1',b2',b3',b4',b5',b6',b7'⟩:=zAU hv' ((zAL h').2 hne');have hn256:n<=256:=by rw [<- h.len];exact b1
 have hm256:m<=256:=by rw [<- h'.len];exact b1'
 have B2:=Zh b2;have B2':=Zh b2';have B3:=Zh b3;have B3':=Zh b3';have TT:Hid (zCU ⟨neg,l,x⟩=(zAT (val l):Int)+x):=by unfold Hid zCU;rw [if_pos ⟨hv,(zAL h).2 hne⟩]
 have TT':Hid (zCU ⟨neg',l',x'⟩=(zAT (val l'):Int)+x'):=by unfold Hid zCU;rw [if_pos ⟨hv',(zAL h').2 hne'⟩]
 have n0:((n:Int) == 0)=false:=by simp;omega
 have m0:((m:Int) == 0)=false:=by simp;omega
 have hm1:mn<=x:=by omega
 have hm2:mn<=x':=by omega
 have hm3:mn=x\/mn=x':=by omega
 simp only at b4 b5 b6 b7 b4' b5' b6' b7';have hm4:-16384<=mn:=by omega
 have HM3:=Zh hm3;have HMN:=Zh hmn;have HV:=Zh hv;have HV':=Zh hv';clear b1 b1' b2 b2' b3 b3' hmn hv hv' hm3;go_enter Tryz.func177,Tryz.ntmps177
 go_wp2_with fail
 rw [HMN.out];obtain ⟨k1,k2,k3,k4,k5⟩:=zNO w 30 #[.bool neg,.slice A n c,.int .i64 x] #[.bool neg',.slice B m d,.int .i64 x'] #[.bool false,.slice none 0 0,.int .i64 0];have h1:=h.below k5;have h1':=h'.below k5;have HT:=Zh (ht.next k5);have HG0:=Zh ht.lt;clear ht;generalize ((w.alloc (.cells #[.bool neg,.slice A n c,.int .i64 x] 30)).alloc (.cells #[.bool neg',.slice B m d,.int .i64 x'] 30)).alloc (.cells #[.bool false,.slice none 0 0,.int .i64 0] 30)=W0 at *;obtain ⟨s0,s1,s2⟩:=k1.cells3;obtain ⟨t0,t1,t2⟩:=k2.cells3;have hz:w.heap.size+3<=W0.heap.size:=by omega
 clear k4
 go_region_held3 (fun W=>W.cell? ⟨w.heap.size,0,none⟩=some (.bool neg)/\W.cell? ⟨w.heap.size,1,none⟩=some (.slice A n c)/\W.cell? ⟨w.heap.size,2,none⟩=some (.int .i64 x)/\W.cell? ⟨w.heap.size+1,0,none⟩=some (.bool neg')/\W.cell? ⟨w.heap.size+1,1,none⟩=some (.slice B m d)/\W.cell? ⟨w.heap.size+1,2,none⟩=some (.int .i64 x'))
  (first | exact ⟨s0,s1,s2,t0,t1,t2⟩ | exact zCn hbA (by simp;omega) (by simp;omega) ⟨s0,s1,s2,t0,t1,t2⟩ | exact zCn (zAA hbA hbB) (by simp;omega) (by simp;omega) ⟨s0,s1,s2,t0,t1,t2⟩)
  (first
   | (go_at_call 77; (with_reducible refine (zBB neg A n c l x _ h1.drew (by omega)).mono ?_);rintro e wA ⟨rfl,hbA⟩)
   | (go_at_call 77; (with_reducible refine (zBB neg' B m d l' x' _ (h1'.drew.below hbA) (by omega)).mono ?_);rintro e wB ⟨rfl,hbB⟩))
 rw [TT.out,TT'.out];have hbAB:=zAA hbA hbB;have k1B:=k1.drew.below hbAB (by simp;omega);have k2B:=k2.drew.below hbAB (by simp;omega);have k3B:=k3.drew.below hbAB (by simp;omega);have hbw:Below w.heap.size w wB:=zAA (zAR k5 1) hbAB;have h2:=h1.drew.below hbAB;have h2':=h1'.drew.below hbAB;have HTB:=Zh ((show zBx W0.drew from HT.out).next hbAB);have hzB:w.heap.size+3<=wB.heap.size:=by have:=hbAB.size;simp at this;omega
 clear k1 k2 k3 k5 h1 h1' s0 s1 s2 t0 t1 t2 HT hbA hbB hbAB hz TT TT' HV HV';obtain ⟨s0,s1,s2⟩:=k1B.cells3;obtain ⟨t0,t1,t2⟩:=k2B.cells3;obtain ⟨r0,r1,r2⟩:=k3B.cells3;have f0:=k3B.frozen 0;have f1:=k3B.frozen 1;have f2:=k3B.frozen 2;have HN1:Hid (zAT (val l)=zAT (val l)):=rfl;generalize hN1:zAT (val l)=N1 at *;generalize hN2:zAT (val l')=N2 at *;have HBN1:=Zh hN1;have HBN2:=Zh hN2;clear hN1 hN2 HN1;have hmx1:max ((N1:Int)+x) ((N2:Int)+x')<=40000:=by omega
 have hmx2:-40000<=max ((N1:Int)+x) ((N2:Int)+x'):=by omega
 obtain ⟨he1,he2⟩:=he;have hd1:decide (4097<max ((N1:Int)+x) ((N2:Int)+x') - mn)=true:=Yf he1;rcases he2 with he2 | he2
 ·go_wp2_with fail
  refine Yn (zBI Tryz.results177 rfl (k3B.set3 _ _ _)) rfl ?_;exact ⟨none,0,0,rfl,SL.nil _,zAn.zero,zAG hbw (by omega) _ _ _⟩
 ·by_cases he3:1<((N1:Int)+x) - ((N2:Int)+x')
  ·omega
  ·go_wp2_with fail
   refine Yn (zBI Tryz.results177 rfl (k3B.set3 _ _ _)) rfl ?_;exact ⟨none,0,0,rfl,SL.nil _,zAn.zero,zAG hbw (by omega) _ _ _⟩
theorem zNG (neg neg':Bool) (A B:Option Addr) (n c m d:Nat) (l l':List Nat) (x x' mn:Int) (w:World) (h:SL w A n c l) (h':SL w B m d l') (ht:zBx w)
  (hv:vld ⟨neg,l,x⟩=true) (hv':vld ⟨neg',l',x'⟩=true) (hne:n≠0) (hne':m≠0) (hmn:min x x' = mn) (he:¬ 4097<max ((zAT (val l):Int)+x) ((zAT (val l'):Int)+x') - mn) (hsg:neg=neg') :
  Calls Tryz.prog 177 #[.agg #[.bool neg,.slice A n c,.int .i64 x],.agg #[.bool neg',.slice B m d,.int .i64 x']] w (zJI (zDB neg neg' (val l*2^(x - mn).toNat) (val l' * 2^(x' - mn).toNat) mn).1 (zDB neg neg' (val l*2^(x - mn).toNat) (val l' * 2^(x' - mn).toNat) mn).2 w):=by
 have HSG:=Zh hsg;clear hsg;obtain ⟨b1,b2,b3,b4,b5,b6,b7⟩:=zAU hv ((zAL h).2 hne);obtain ⟨b1',b2',b3',b4',b5',b6',b7'⟩:=zAU hv' ((zAL h').2 hne');have hn256:n<=256:=by rw [<- h.len];exact b1
 have hm256:m<=256:=by rw [<- h'.len];exact b1'
 have B2:=Zh b2;have B2':=Zh b2';have B3:=Zh b3;have B3':=Zh b3';have TT:Hid (zCU ⟨neg,l,x⟩=(zAT (val l):Int)+x):=by unfold Hid zCU;rw [if_pos ⟨hv,(zAL h).2 hne⟩]
 have TT':Hid (zCU ⟨neg',l',x'⟩=(zAT (val l'):Int)+x'):=by unfold Hid zCU;rw [if_pos ⟨hv',(zAL h').2 hne'⟩]
 have n0:((n:Int) == 0)=false:=by simp;omega
 have m0:((m:Int) == 0)=false:=by simp;omega
 have hm1:mn<=x:=by omega
 have hm2:mn<=x':=by omega
 have hm3:mn=x\/mn=x':=by omega
 simp only at b4 b5 b6 b7 b4' b5' b6' b7';have hm4:-16384<=mn:=by omega
 have HM3:=Zh hm3;have HMN:=Zh hmn;have HV:=Zh hv;have HV':=Zh hv';clear b1 b1' b2 b2' b3 b3' hmn hv hv' hm3;go_enter Tryz.func177,Tryz.ntmps177
 go_wp2_with fail
 rw [HMN.out];obtain ⟨k1,k2,k3,k4,k5⟩:=zNO w 30 #[.bool neg,.slice A n c,.int .i64 x] #[.bool neg',.slice B m d,.int .i64 x'] #[.bool false,.slice none 0 0,.int .i64 0];have h1:=h.below k5;have h1':=h'.below k5;have HT:=Zh (ht.next k5);have HG0:=Zh ht.lt;clear ht;generalize ((w.alloc (.cells #[.bool neg,.slice A n c,.int .i64 x] 30)).alloc (.cells #[.bool neg',.slice B m d,.int .i64 x'] 30)).alloc (.cells #[.bool false,.slice none 0 0,.int .i64 0] 30)=W0 at *;obtain ⟨s0,s1,s2⟩:=k1.cells3;obtain ⟨t0,t1,t2⟩:=k2.cells3;have hz:w.heap.size+3<=W0.heap.size:=by omega
 clear k4
 go_region_held3 (fun W=>W.cell? ⟨w.heap.size,0,none⟩=some (.bool neg)/\W.cell? ⟨w.heap.size,1,none⟩=some (.slice A n c)/\W.cell? ⟨w.heap.size,2,none⟩=some (.int .i64 x)/\W.cell? ⟨w.heap.size+1,0,none⟩=some (.bool neg')/\W.cell? ⟨w.heap.size+1,1,none⟩=some (.slice B m d)/\W.cell? ⟨w.heap.size+1,2,none⟩=some (.int .i64 x'))
  (first | exact ⟨s0,s1,s2,t0,t1,t2⟩ | exact zCn hbA (by simp;omega) (by simp;omega) ⟨s0,s1,s2,t0,t1,t2⟩ | exact zCn (zAA hbA hbB) (by simp;omega) (by simp;omega) ⟨s0,s1,s2,t0,t1,t2⟩)
  (first
   | (go_at_call 77; (with_reducible refine (zBB neg A n c l x _ h1.drew (by omega)).mono ?_);rintro e wA ⟨rfl,hbA⟩)
   | (go_at_call 77; (with_reducible refine (zBB neg' B m d l' x' _ (h1'.drew.below hbA) (by omega)).mono ?_);rintro e wB ⟨rfl,hbB⟩))
 rw [TT.out,TT'.out];have hbAB:=zAA hbA hbB;have k1B:=k1.drew.below hbAB (by simp;omega);have k2B:=k2.drew.below hbAB (by simp;omega);have k3B:=k3.drew.below hbAB (by simp;omega);have hbw:Below w.heap.size w wB:=zAA (zAR k5 1) hbAB;have h2:=h1.drew.below hbAB;have h2':=h1'.drew.below hbAB;have HTB:=Zh ((show zBx W0.drew from HT.out).next hbAB);have hzB:w.heap.size+3<=wB.heap.size:=by have:=hbAB.size;simp at this;omega
 clear k1 k2 k3 k5 h1 h1' s0 s1 s2 t0 t1 t2 HT hbA hbB hbAB hz TT TT' HV HV';obtain ⟨s0,s1,s2⟩:=k1B.cells3;obtain ⟨t0,t1,t2⟩:=k2B.cells3;obtain ⟨r0,r1,r2⟩:=k3B.cells3;have f0:=k3B.frozen 0;have f1:=k3B.frozen 1;have f2:=k3B.frozen 2;have HN1:Hid (zAT (val l)=zAT (val l)):=rfl;generalize hN1:zAT (val l)=N1 at *;generalize hN2:zAT (val l')=N2 at *;have HBN1:=Zh hN1;have HBN2:=Zh hN2;clear hN1 hN2 HN1;have hmx1:max ((N1:Int)+x) ((N2:Int)+x')<=40000:=by omega
 have hmx2:-40000<=max ((N1:Int)+x) ((N2:Int)+x'):=by omega
 have hd1:decide (4097<max ((N1:Int)+x) ((N2:Int)+x') - mn)=false:=Ye (by omega);have q1e:∃q1:Nat,x - mn=(q1:Int):=⟨(x - mn).toNat,by omega⟩;have q2e:∃q2:Nat,x' - mn=(q2:Int):=⟨(x' - mn).toNat,by omega⟩;obtain ⟨q1,hq1⟩:=q1e;obtain ⟨q2,hq2⟩:=q2e;have hm3:=HM3.out;have hT1:N1+q1<=4097:=by omega
 have hT2:N2+q2<=4097:=by omega
 have hq1b:q1<=65536:=by omega
 have hq2b:q2<=65536:=by omega
 have P1:0<val l:=by have:=B3.out;omega
 have P2:0<val l':=by have:=B3'.out;omega
 have L1:Hid (zAT (val l*2^q1)=N1+q1):=by unfold Hid;rw [zAc _ _ P1,HBN1.out]
 have L2:Hid (zAT (val l' * 2^q2)=N2+q2):=by unfold Hid;rw [zAc _ _ P2,HBN2.out]
 have D1:Hid ((zAa (val l*2^q1)).length<=256):=Yq (zAP _ 129 (by rw [L1.out];omega)) (by omega);have D2:Hid ((zAa (val l' * 2^q2)).length<=256):=Yq (zAP _ 129 (by rw [L2.out];omega)) (by omega);have W1:IntKind.i64.wrap (x - mn)=(q1:Int):=by rw [hq1];exact IntWalk.i64_in _ (by omega)
 have W2:IntKind.i64.wrap (x' - mn)=(q2:Int):=by rw [hq2];exact IntWalk.i64_in _ (by omega)
 have E1:Hid ((x - mn).toNat=q1):=by unfold Hid;omega
 have E2:Hid ((x' - mn).toNat=q2):=by unfold Hid;omega
 clear hm3 hq1 hq2 P1 P2;go_wp2_with fail
 go_region_held3 (fun W=>W.cell? ⟨w.heap.size,1,none⟩=some (.slice A n c)/\W.cell? ⟨w.heap.size,2,none⟩=some (.int .i64 x)/\W.cell? ⟨w.heap.size+1,1,none⟩=some (.slice B m d)/\W.cell? ⟨w.heap.size+1,2,none⟩=some (.int .i64 x'))
  (first | exact ⟨s1,s2,t1,t2⟩ | exact zEf hbC (by simp;omega) (by simp;omega) ⟨s1,s2,t1,t2⟩ | exact zEf (zAA hbC hbD) (by simp;omega) (by simp;omega) ⟨s1,s2,t1,t2⟩)
  (first
   | (go_at_call 79; (with_reducible refine (zAs A n c q1 _ l _ h2.drew hn256 rfl hq1b D1.out).mono ?_);rintro e wC ⟨AC,nC,cC,rfl,hsC,hfC,hbC⟩)
   | (go_at_call 79; (with_reducible refine (zAs B m d q2 _ l' _ (h2'.drew.below hbC) hm256 rfl hq2b D2.out).mono ?_);rintro e wD ⟨AD,nD,cD,rfl,hsD,hfD,hbD⟩))
 have hbCD:=zAA hbC hbD;have k1D:=k1B.drew.below hbCD (by simp;omega);have k2D:=k2B.drew.below hbCD (by simp;omega);have k3D:=k3B.drew.below hbCD (by simp;omega);have hbwD:Below w.heap.size w wD:=zAA (zAR hbw 1) hbCD;have hsC2:=hsC.below hbD;have HTD:=Zh ((show zBx wB.drew from HTB.out).next hbCD);have hzD:w.heap.size+3<=wD.heap.size:=by have:=hbCD.size;simp at this;omega
 have hsz1:=hbC.size;simp at hsz1;have FC:Hid (zAn (w.heap.size+1) AC nC):=hfC.mono (by simp;omega);have FD:Hid (zAn (w.heap.size+1) AD nD):=hfD.mono (by omega);clear hsz1;have hnC:nC<=129:=by rw [<- hsC.len];exact zAP _ 129 (by rw [L1.out];omega)
 have hnD:nD<=129:=by rw [<- hsD.len];exact zAP _ 129 (by rw [L2.out];omega)
 clear k1B k2B k3B h2 h2' HTB hbC hbD hbCD hsC hfC hfD hzB W1 W2 D1 D2 s0 s1 s2 t0 t1 t2 r0 r1 r2 f0 f1 f2 hbw;obtain ⟨s0,s1,s2⟩:=k1D.cells3;obtain ⟨t0,t1,t2⟩:=k2D.cells3;obtain ⟨r0,r1,r2⟩:=k3D.cells3;have f0:=k3D.frozen 0;have f1:=k3D.frozen 1;have f2:=k3D.frozen 2;have hsb:(neg == neg')=true:=by rw [HSG.out];simp
 have HLE:Hid ((zAa (val l*2^q1+val l' * 2^q2)).length<=256):=Yq (zAP _ 129 (Yq (zGV (k:=4097) (by rw [L1.out];exact hT1) (by rw [L2.out];exact hT2)) (by omega))) (by omega);go_wp2_with fail
 refine (zNT AC AD nC cC nD cD _ _ _ hsC2 hsD (by omega) (by omega) (by rw [zAH,zAH];exact HLE.out)).mono ?_;rintro e wE ⟨AE,nE,cE,rfl,hsE,hfE,hbE⟩
 rw [zAH,zAH] at hsE;have hbwE:=zAA hbwD hbE;have k1E:=k1D.below hbE (by omega);have k3E:=k3D.below hbE (by omega);have HTE:=Zh (HTD.out.next hbE);have hzE:w.heap.size+3<=wE.heap.size:=by have:=hbE.size;omega
 have SV:Hid (zDB neg neg' (val l*2^(x - mn).toNat) (val l' * 2^(x' - mn).toNat) mn=zAu neg (val l*2^q1+val l' * 2^q2) mn):=by unfold Hid;rw [E1.out,E2.out];rw [zDB,if_pos HSG.out]
 generalize zDB neg neg' (val l*2^(x - mn).toNat) (val l' * 2^(x' - mn).toNat) mn=r at *;generalize val l*2^q1+val l' * 2^q2=V at *;clear k1D k2D k3D HTD hzD hsC2 hsD hbE s0 s1 s2 t0 t1 t2 r0 r1 r2 f0 f1 f2 hbwD;obtain ⟨s0,s1,s2⟩:=k1E.cells3;obtain ⟨r0,r1,r2⟩:=k3E.cells3;have hnE:nE<=256:=by rw [<- hsE.len];exact HLE.out
 go_wp2_with fail
 refine (zAi neg AE nE cE _ mn _ hsE hnE (by omega) (by omega) HTE.out).mono ?_;rintro e wF ⟨AF,nF,cF,rfl,hsF,hfF,hbF⟩
 rw [zAH] at hsF ⊢;have hnF:nF<=256:=by
  rw [<- hsF.len];unfold zAN
  split
  ·simp [zAZ]
  ·exact zCR (zAk V) HLE.out (by rw [zAH];exact Nat.div_le_self _ _)
 have HD:Hid (zAu neg V mn=if inR (val (zAN neg V mn).l) (zAN neg V mn).e=true then (zAN neg V mn,0) else (zAZ,9)):=rfl;have hrd:r=if inR (val (zAN neg V mn).l) (zAN neg V mn).e=true then (zAN neg V mn,0) else (zAZ,9):=by rw [SV.out,HD.out]
 have HRD:=Zh hrd;clear hrd HD SV;generalize zAN neg V mn=dd at *;by_cases hr:inR (val dd.l) dd.e=true
 ·have hrr:r=(dd,0):=by rw [HRD.out,if_pos hr]
  subst hrr;go_wp2_with fail
  refine (zBf dd.neg AF nF cF dd.l dd.e _ hsF (by omega) hr).mono ?_;rintro e wG ⟨rfl,hbG⟩
  have hbFG:=zAA hbF hbG;have k3G:=k3E.below hbFG (by omega);obtain ⟨v0,v1,v2⟩:=k3G.cells3;have g0:=k3G.frozen 0;have g1:=k3G.frozen 1;have g2:=k3G.frozen 2;have hzG:w.heap.size+3<=wG.heap.size:=by have:=hbFG.size;omega
  clear hr HRD;go_wp2_with fail
  refine Yn (zBI Tryz.results177 rfl (k3G.set3 _ _ _)) rfl ?_;have hsG:=hsF.below hbG;have hlt:w.heap.size+1+1<wE.heap.size:=by omega
  exact ⟨AF,nF,cF,rfl,(((hsG.far hfF hlt 0 _).far hfF hlt 1 _).far hfF hlt 2 _),hfF.mono (by omega),zAG (zAA hbwE hbFG) (by omega) _ _ _⟩
 ·have hrr:r=(zAZ,9):=by rw [HRD.out,if_neg hr]
  subst hrr;go_wp2_with fail
  refine (zBJ dd.neg AF nF cF dd.l dd.e _ hsF (by omega) (by simpa using hr)).mono ?_;rintro e wG ⟨rfl,hbG⟩
  have hbFG:=zAA hbF hbG;have k3G:=k3E.below hbFG (by omega);obtain ⟨v0,v1,v2⟩:=k3G.cells3;have g0:=k3G.frozen 0;have g1:=k3G.frozen 1;have g2:=k3G.frozen 2;have hzG:w.heap.size+3<=wG.heap.size:=by have:=hbFG.size;omega
  clear hr HRD;go_wp2_with fail
  refine Yn (zBI Tryz.results177 rfl (k3G.set3 _ _ _)) rfl ?_;exact ⟨none,0,0,rfl,SL.nil _,zAn.zero,zAG (zAA hbwE hbFG) (by omega) _ _ _⟩
theorem zNH (neg neg':Bool) (A B:Option Addr) (n c m d:Nat) (l l':List Nat) (x x' mn:Int) (w:World) (h:SL w A n c l) (h':SL w B m d l') (ht:zBx w)
  (hv:vld ⟨neg,l,x⟩=true) (hv':vld ⟨neg',l',x'⟩=true) (hne:n≠0) (hne':m≠0) (hmn:min x x' = mn) (he:4097<max ((zAT (val l):Int)+x) ((zAT (val l'):Int)+x') - mn) (he1:¬ 1<((zAT (val l):Int)+x) - ((zAT (val l'):Int)+x')) (he2:¬ 1<((zAT (val l'):Int)+x') - ((zAT (val l):Int)+x)) (hsg:neg=neg') :
  Calls Tryz.prog 177 #[.agg #[.bool neg,.slice A n c,.int .i64 x],.agg #[.bool neg',.slice B m d,.int .i64 x']] w (zJI (zDB neg neg' (val l*2^(x - mn).toNat) (val l' * 2^(x' - mn).toNat) mn).1 (zDB neg neg' (val l*2^(x - mn).toNat) (val l' * 2^(x' - mn).toNat) mn).2 w):=by
 have HSG:=Zh hsg;clear hsg;obtain ⟨b1,b2,b3,b4,b5,b6,b7⟩:=zAU hv ((zAL h).2 hne);obtain ⟨b1',b2',b3',b4',b5',b6',b7'⟩:=zAU hv' ((zAL h').2 hne');have hn256:n<=256:=by rw [<- h.len];exact b1
 have hm256:m<=256:=by rw [<- h'.len];exact b1'
 have B2:=Zh b2;have B2':=Zh b2';have B3:=Zh b3;have B3':=Zh b3';have TT:Hid (zCU ⟨neg,l,x⟩=(zAT (val l):Int)+x):=by unfold Hid zCU;rw [if_pos ⟨hv,(zAL h).2 hne⟩]
 have TT':Hid (zCU ⟨neg',l',x'⟩=(zAT (val l'):Int)+x'):=by unfold Hid zCU;rw [if_pos ⟨hv',(zAL h').2 hne'⟩]
 have n0:((n:Int) == 0)=false:=by simp;omega
 have m0:((m:Int) == 0)=false:=by simp;omega
 have hm1:mn<=x:=by omega
 have hm2:mn<=x':=by omega
 have hm3:mn=x\/mn=x':=by omega
 simp only at b4 b5 b6 b7 b4' b5' b6' b7';have hm4:-16384<=mn:=by omega
 have HM3:=Zh hm3;have HMN:=Zh hmn;have HV:=Zh hv;have HV':=Zh hv';clear b1 b1' b2 b2' b3 b3' hmn hv hv' hm3;go_enter Tryz.func177,Tryz.ntmps177
 go_wp2_with fail
 rw [HMN.out];obtain ⟨k1,k2,k3,k4,k5⟩:=zNO w 30 #[.bool neg,.slice A n c,.int .i64 x] #[.bool neg',.slice B m d,.int .i64 x'] #[.bool false,.slice none 0 0,.int .i64 0];have h1:=h.below k5;have h1':=h'.below k5;have HT:=Zh (ht.next k5);have HG0:=Zh ht.lt;clear ht;generalize ((w.alloc (.cells #[.bool neg,.slice A n c,.int .i64 x] 30)).alloc (.cells #[.bool neg',.slice B m d,.int .i64 x'] 30)).alloc (.cells #[.bool false,.slice none 0 0,.int .i64 0] 30)=W0 at *;obtain ⟨s0,s1,s2⟩:=k1.cells3;obtain ⟨t0,t1,t2⟩:=k2.cells3;have hz:w.heap.size+3<=W0.heap.size:=by omega
 clear k4
 go_region_held3 (fun W=>W.cell? ⟨w.heap.size,0,none⟩=some (.bool neg)/\W.cell? ⟨w.heap.size,1,none⟩=some (.slice A n c)/\W.cell? ⟨w.heap.size,2,none⟩=some (.int .i64 x)/\W.cell? ⟨w.heap.size+1,0,none⟩=some (.bool neg')/\W.cell? ⟨w.heap.size+1,1,none⟩=some (.slice B m d)/\W.cell? ⟨w.heap.size+1,2,none⟩=some (.int .i64 x'))
  (first | exact ⟨s0,s1,s2,t0,t1,t2⟩ | exact zCn hbA (by simp;omega) (by simp;omega) ⟨s0,s1,s2,t0,t1,t2⟩ | exact zCn (zAA hbA hbB) (by simp;omega) (by simp;omega) ⟨s0,s1,s2,t0,t1,t2⟩)
  (first
   | (go_at_call 77; (with_reducible refine (zBB neg A n c l x _ h1.drew (by omega)).mono ?_);rintro e wA ⟨rfl,hbA⟩)
   | (go_at_call 77; (with_reducible refine (zBB neg' B m d l' x' _ (h1'.drew.below hbA) (by omega)).mono ?_);rintro e wB ⟨rfl,hbB⟩))
 rw [TT.out,TT'.out];have hbAB:=zAA hbA hbB;have k1B:=k1.drew.below hbAB (by simp;omega);have k2B:=k2.drew.below hbAB (by simp;omega);have k3B:=k3.drew.below hbAB (by simp;omega);have hbw:Below w.heap.size w wB:=zAA (zAR k5 1) hbAB;have h2:=h1.drew.below hbAB;have h2':=h1'.drew.below hbAB;have HTB:=Zh ((show zBx W0.drew from HT.out).next hbAB);have hzB:w.heap.size+3<=wB.heap.size:=by have:=hbAB.size;simp at this;omega
 clear k1 k2 k3 k5 h1 h1' s0 s1 s2 t0 t1 t2 HT hbA hbB hbAB hz TT TT' HV HV';obtain ⟨s0,s1,s2⟩:=k1B.cells3;obtain ⟨t0,t1,t2⟩:=k2B.cells3;obtain ⟨r0,r1,r2⟩:=k3B.cells3;have f0:=k3B.frozen 0;have f1:=k3B.frozen 1;have f2:=k3B.frozen 2;have HN1:Hid (zAT (val l)=zAT (val l)):=rfl;generalize hN1:zAT (val l)=N1 at *;generalize hN2:zAT (val l')=N2 at *;have HBN1:=Zh hN1;have HBN2:=Zh hN2;clear hN1 hN2 HN1;have hmx1:max ((N1:Int)+x) ((N2:Int)+x')<=40000:=by omega
 have hmx2:-40000<=max ((N1:Int)+x) ((N2:Int)+x'):=by omega
 have hd1:decide (4097<max ((N1:Int)+x) ((N2:Int)+x') - mn)=true:=Yf (by omega);have q1e:∃q1:Nat,x - mn=(q1:Int):=⟨(x - mn).toNat,by omega⟩;have q2e:∃q2:Nat,x' - mn=(q2:Int):=⟨(x' - mn).toNat,by omega⟩;obtain ⟨q1,hq1⟩:=q1e;obtain ⟨q2,hq2⟩:=q2e;have hm3:=HM3.out;have hT1:N1+q1<=4097:=by omega
 have hT2:N2+q2<=4097:=by omega
 have hq1b:q1<=65536:=by omega
 have hq2b:q2<=65536:=by omega
 have P1:0<val l:=by have:=B3.out;omega
 have P2:0<val l':=by have:=B3'.out;omega
 have L1:Hid (zAT (val l*2^q1)=N1+q1):=by unfold Hid;rw [zAc _ _ P1,HBN1.out]
 have L2:Hid (zAT (val l' * 2^q2)=N2+q2):=by unfold Hid;rw [zAc _ _ P2,HBN2.out]
 have D1:Hid ((zAa (val l*2^q1)).length<=256):=Yq (zAP _ 129 (by rw [L1.out];omega)) (by omega);have D2:Hid ((zAa (val l' * 2^q2)).length<=256):=Yq (zAP _ 129 (by rw [L2.out];omega)) (by omega);have W1:IntKind.i64.wrap (x - mn)=(q1:Int):=by rw [hq1];exact IntWalk.i64_in _ (by omega)
 have W2:IntKind.i64.wrap (x' - mn)=(q2:Int):=by rw [hq2];exact IntWalk.i64_in _ (by omega)
 have E1:Hid ((x - mn).toNat=q1):=by unfold Hid;omega
 have E2:Hid ((x' - mn).toNat=q2):=by unfold Hid;omega
 clear hm3 hq1 hq2 P1 P2;go_wp2_with fail
 go_region_held3 (fun W=>W.cell? ⟨w.heap.size,1,none⟩=some (.slice A n c)/\W.cell? ⟨w.heap.size,2,none⟩=some (.int .i64 x)/\W.cell? ⟨w.heap.size+1,1,none⟩=some (.slice B m d)/\W.cell? ⟨w.heap.size+1,2,none⟩=some (.int .i64 x'))
  (first | exact ⟨s1,s2,t1,t2⟩ | exact zEf hbC (by simp;omega) (by simp;omega) ⟨s1,s2,t1,t2⟩ | exact zEf (zAA hbC hbD) (by simp;omega) (by simp;omega) ⟨s1,s2,t1,t2⟩)
  (first
   | (go_at_call 79; (with_reducible refine (zAs A n c q1 _ l _ h2.drew hn256 rfl hq1b D1.out).mono ?_);rintro e wC ⟨AC,nC,cC,rfl,hsC,hfC,hbC⟩)
   | (go_at_call 79; (with_reducible refine (zAs B m d q2 _ l' _ (h2'.drew.below hbC) hm256 rfl hq2b D2.out).mono ?_);rintro e wD ⟨AD,nD,cD,rfl,hsD,hfD,hbD⟩))
 have hbCD:=zAA hbC hbD;have k1D:=k1B.drew.below hbCD (by simp;omega);have k2D:=k2B.drew.below hbCD (by simp;omega);have k3D:=k3B.drew.below hbCD (by simp;omega);have hbwD:Below w.heap.size w wD:=zAA (zAR hbw 1) hbCD;have hsC2:=hsC.below hbD;have HTD:=Zh ((show zBx wB.drew from HTB.out).next hbCD);have hzD:w.heap.size+3<=wD.heap.size:=by have:=hbCD.size;simp at this;omega
 have hsz1:=hbC.size;simp at hsz1;have FC:Hid (zAn (w.heap.size+1) AC nC):=hfC.mono (by simp;omega);have FD:Hid (zAn (w.heap.size+1) AD nD):=hfD.mono (by omega);clear hsz1;have hnC:nC<=129:=by rw [<- hsC.len];exact zAP _ 129 (by rw [L1.out];omega)
 have hnD:nD<=129:=by rw [<- hsD.len];exact zAP _ 129 (by rw [L2.out];omega)
 clear k1B k2B k3B h2 h2' HTB hbC hbD hbCD hsC hfC hfD hzB W1 W2 D1 D2 s0 s1 s2 t0 t1 t2 r0 r1 r2 f0 f1 f2 hbw;obtain ⟨s0,s1,s2⟩:=k1D.cells3;obtain ⟨t0,t1,t2⟩:=k2D.cells3;obtain ⟨r0,r1,r2⟩:=k3D.cells3;have f0:=k3D.frozen 0;have f1:=k3D.frozen 1;have f2:=k3D.frozen 2;have hsb:(neg == neg')=true:=by rw [HSG.out];simp
 have HLE:Hid ((zAa (val l*2^q1+val l' * 2^q2)).length<=256):=Yq (zAP _ 129 (Yq (zGV (k:=4097) (by rw [L1.out];exact hT1) (by rw [L2.out];exact hT2)) (by omega))) (by omega);go_wp2_with fail
 refine (zNT AC AD nC cC nD cD _ _ _ hsC2 hsD (by omega) (by omega) (by rw [zAH,zAH];exact HLE.out)).mono ?_;rintro e wE ⟨AE,nE,cE,rfl,hsE,hfE,hbE⟩
 rw [zAH,zAH] at hsE;have hbwE:=zAA hbwD hbE;have k1E:=k1D.below hbE (by omega);have k3E:=k3D.below hbE (by omega);have HTE:=Zh (HTD.out.next hbE);have hzE:w.heap.size+3<=wE.heap.size:=by have:=hbE.size;omega
 have SV:Hid (zDB neg neg' (val l*2^(x - mn).toNat) (val l' * 2^(x' - mn).toNat) mn=zAu neg (val l*2^q1+val l' * 2^q2) mn):=by unfold Hid;rw [E1.out,E2.out];rw [zDB,if_pos HSG.out]
 generalize zDB neg neg' (val l*2^(x - mn).toNat) (val l' * 2^(x' - mn).toNat) mn=r at *;generalize val l*2^q1+val l' * 2^q2=V at *;clear k1D k2D k3D HTD hzD hsC2 hsD hbE s0 s1 s2 t0 t1 t2 r0 r1 r2 f0 f1 f2 hbwD;obtain ⟨s0,s1,s2⟩:=k1E.cells3;obtain ⟨r0,r1,r2⟩:=k3E.cells3;have hnE:nE<=256:=by rw [<- hsE.len];exact HLE.out
 go_wp2_with fail
 refine (zAi neg AE nE cE _ mn _ hsE hnE (by omega) (by omega) HTE.out).mono ?_;rintro e wF ⟨AF,nF,cF,rfl,hsF,hfF,hbF⟩
 rw [zAH] at hsF ⊢;have hnF:nF<=256:=by
  rw [<- hsF.len];unfold zAN
  split
  ·simp [zAZ]
  ·exact zCR (zAk V) HLE.out (by rw [zAH];exact Nat.div_le_self _ _)
 have HD:Hid (zAu neg V mn=if inR (val (zAN neg V mn).l) (zAN neg V mn).e=true then (zAN neg V mn,0) else (zAZ,9)):=rfl;have hrd:r=if inR (val (zAN neg V mn).l) (zAN neg V mn).e=true then (zAN neg V mn,0) else (zAZ,9):=by rw [SV.out,HD.out]
 have HRD:=Zh hrd;clear hrd HD SV;generalize zAN neg V mn=dd at *;by_cases hr:inR (val dd.l) dd.e=true
 ·have hrr:r=(dd,0):=by rw [HRD.out,if_pos hr]
  subst hrr;go_wp2_with fail
  refine (zBf dd.neg AF nF cF dd.l dd.e _ hsF (by omega) hr).mono ?_;rintro e wG ⟨rfl,hbG⟩
  have hbFG:=zAA hbF hbG;have k3G:=k3E.below hbFG (by omega);obtain ⟨v0,v1,v2⟩:=k3G.cells3;have g0:=k3G.frozen 0;have g1:=k3G.frozen 1;have g2:=k3G.frozen 2;have hzG:w.heap.size+3<=wG.heap.size:=by have:=hbFG.size;omega
  clear hr HRD;go_wp2_with fail
  refine Yn (zBI Tryz.results177 rfl (k3G.set3 _ _ _)) rfl ?_;have hsG:=hsF.below hbG;have hlt:w.heap.size+1+1<wE.heap.size:=by omega
  exact ⟨AF,nF,cF,rfl,(((hsG.far hfF hlt 0 _).far hfF hlt 1 _).far hfF hlt 2 _),hfF.mono (by omega),zAG (zAA hbwE hbFG) (by omega) _ _ _⟩
 ·have hrr:r=(zAZ,9):=by rw [HRD.out,if_neg hr]
  subst hrr;go_wp2_with fail
  refine (zBJ dd.neg AF nF cF dd.l dd.e _ hsF (by omega) (by simpa using hr)).mono ?_;rintro e wG ⟨rfl,hbG⟩
  have hbFG:=zAA hbF hbG;have k3G:=k3E.below hbFG (by omega);obtain ⟨v0,v1,v2⟩:=k3G.cells3;have g0:=k3G.frozen 0;have g1:=k3G.frozen 1;have g2:=k3G.frozen 2;have hzG:w.heap.size+3<=wG.heap.size:=by have:=hbFG.size;omega
  clear hr HRD;go_wp2_with fail
  refine Yn (zBI Tryz.results177 rfl (k3G.set3 _ _ _)) rfl ?_;exact ⟨none,0,0,rfl,SL.nil _,zAn.zero,zAG (zAA hbwE hbFG) (by omega) _ _ _⟩
theorem zQx (neg neg':Bool) (A B:Option Addr) (n c m d:Nat) (l l':List Nat) (x x' mn:Int) (w:World) (h:SL w A n c l) (h':SL w B m d l') (ht:zBx w)
  (hv:vld ⟨neg,l,x⟩=true) (hv':vld ⟨neg',l',x'⟩=true) (hne:n≠0) (hne':m≠0) (hmn:min x x' = mn) (he:¬ 4097<max ((zAT (val l):Int)+x) ((zAT (val l'):Int)+x') - mn) (hsg:¬ neg=neg') (hpq:¬ (val l*2^(x - mn).toNat<val l' * 2^(x' - mn).toNat)) :
  Calls Tryz.prog 177 #[.agg #[.bool neg,.slice A n c,.int .i64 x],.agg #[.bool neg',.slice B m d,.int .i64 x']] w (zJI (zDB neg neg' (val l*2^(x - mn).toNat) (val l' * 2^(x' - mn).toNat) mn).1 (zDB neg neg' (val l*2^(x - mn).toNat) (val l' * 2^(x' - mn).toNat) mn).2 w):=by
 have HSG:=Zh hsg;clear hsg;obtain ⟨b1,b2,b3,b4,b5,b6,b7⟩:=zAU hv ((zAL h).2 hne);obtain ⟨b1',b2',b3',b4',b5',b6',b7'⟩:=zAU hv' ((zAL h').2 hne');have hn256:n<=256:=by rw [<- h.len];exact b1
 have hm256:m<=256:=by rw [<- h'.len];exact b1'
 have B2:=Zh b2;have B2':=Zh b2';have B3:=Zh b3;have B3':=Zh b3';have TT:Hid (zCU ⟨neg,l,x⟩=(zAT (val l):Int)+x):=by unfold Hid zCU;rw [if_pos ⟨hv,(zAL h).2 hne⟩]
 have TT':Hid (zCU ⟨neg',l',x'⟩=(zAT (val l'):Int)+x'):=by unfold Hid zCU;rw [if_pos ⟨hv',(zAL h').2 hne'⟩]
 have n0:((n:Int) == 0)=false:=by simp;omega
 have m0:((m:Int) == 0)=false:=by simp;omega
 have hm1:mn<=x:=by omega
 have hm2:mn<=x':=by omega
 have hm3:mn=x\/mn=x':=by omega
 simp only at b4 b5 b6 b7 b4' b5' b6' b7';have hm4:-16384<=mn:=by omega
 have HM3:=Zh hm3;have HMN:=Zh hmn;have HV:=Zh hv;have HV':=Zh hv';clear b1 b1' b2 b2' b3 b3' hmn hv hv' hm3;go_enter Tryz.func177,Tryz.ntmps177
 go_wp2_with fail
 rw [HMN.out];obtain ⟨k1,k2,k3,k4,k5⟩:=zNO w 30 #[.bool neg,.slice A n c,.int .i64 x] #[.bool neg',.slice B m d,.int .i64 x'] #[.bool false,.slice none 0 0,.int .i64 0];have h1:=h.below k5;have h1':=h'.below k5;have HT:=Zh (ht.next k5);have HG0:=Zh ht.lt;clear ht;generalize ((w.alloc (.cells #[.bool neg,.slice A n c,.int .i64 x] 30)).alloc (.cells #[.bool neg',.slice B m d,.int .i64 x'] 30)).alloc (.cells #[.bool false,.slice none 0 0,.int .i64 0] 30)=W0 at *;obtain ⟨s0,s1,s2⟩:=k1.cells3;obtain ⟨t0,t1,t2⟩:=k2.cells3;have hz:w.heap.size+3<=W0.heap.size:=by omega
 clear k4
 go_region_held3 (fun W=>W.cell? ⟨w.heap.size,0,none⟩=some (.bool neg)/\W.cell? ⟨w.heap.size,1,none⟩=some (.slice A n c)/\W.cell? ⟨w.heap.size,2,none⟩=some (.int .i64 x)/\W.cell? ⟨w.heap.size+1,0,none⟩=some (.bool neg')/\W.cell? ⟨w.heap.size+1,1,none⟩=some (.slice B m d)/\W.cell? ⟨w.heap.size+1,2,none⟩=some (.int .i64 x'))
  (first | exact ⟨s0,s1,s2,t0,t1,t2⟩ | exact zCn hbA (by simp;omega) (by simp;omega) ⟨s0,s1,s2,t0,t1,t2⟩ | exact zCn (zAA hbA hbB) (by simp;omega) (by simp;omega) ⟨s0,s1,s2,t0,t1,t2⟩)
  (first
   | (go_at_call 77; (with_reducible refine (zBB neg A n c l x _ h1.drew (by omega)).mono ?_);rintro e wA ⟨rfl,hbA⟩)
   | (go_at_call 77; (with_reducible refine (zBB neg' B m d l' x' _ (h1'.drew.below hbA) (by omega)).mono ?_);rintro e wB ⟨rfl,hbB⟩))
 rw [TT.out,TT'.out];have hbAB:=zAA hbA hbB;have k1B:=k1.drew.below hbAB (by simp;omega);have k2B:=k2.drew.below hbAB (by simp;omega);have k3B:=k3.drew.below hbAB (by simp;omega);have hbw:Below w.heap.size w wB:=zAA (zAR k5 1) hbAB;have h2:=h1.drew.below hbAB;have h2':=h1'.drew.below hbAB;have HTB:=Zh ((show zBx W0.drew from HT.out).next hbAB);have hzB:w.heap.size+3<=wB.heap.size:=by have:=hbAB.size;simp at this;omega
 clear k1 k2 k3 k5 h1 h1' s0 s1 s2 t0 t1 t2 HT hbA hbB hbAB hz TT TT' HV HV';obtain ⟨s0,s1,s2⟩:=k1B.cells3;obtain ⟨t0,t1,t2⟩:=k2B.cells3;obtain ⟨r0,r1,r2⟩:=k3B.cells3;have f0:=k3B.frozen 0;have f1:=k3B.frozen 1;have f2:=k3B.frozen 2;have HN1:Hid (zAT (val l)=zAT (val l)):=rfl;generalize hN1:zAT (val l)=N1 at *;generalize hN2:zAT (val l')=N2 at *;have HBN1:=Zh hN1;have HBN2:=Zh hN2;clear hN1 hN2 HN1;have hmx1:max ((N1:Int)+x) ((N2:Int)+x')<=40000:=by omega
 have hmx2:-40000<=max ((N1:Int)+x) ((N2:Int)+x'):=by omega
 have hd1:decide (4097<max ((N1:Int)+x) ((N2:Int)+x') - mn)=false:=Ye (by omega);have q1e:∃q1:Nat,x - mn=(q1:Int):=⟨(x - mn).toNat,by omega⟩;have q2e:∃q2:Nat,x' - mn=(q2:Int):=⟨(x' - mn).toNat,by omega⟩;obtain ⟨q1,hq1⟩:=q1e;obtain ⟨q2,hq2⟩:=q2e;have hm3:=HM3.out;have hT1:N1+q1<=4097:=by omega
 have hT2:N2+q2<=4097:=by omega
 have hq1b:q1<=65536:=by omega
 have hq2b:q2<=65536:=by omega
 have P1:0<val l:=by have:=B3.out;omega
 have P2:0<val l':=by have:=B3'.out;omega
 have L1:Hid (zAT (val l*2^q1)=N1+q1):=by unfold Hid;rw [zAc _ _ P1,HBN1.out]
 have L2:Hid (zAT (val l' * 2^q2)=N2+q2):=by unfold Hid;rw [zAc _ _ P2,HBN2.out]
 have D1:Hid ((zAa (val l*2^q1)).length<=256):=Yq (zAP _ 129 (by rw [L1.out];omega)) (by omega);have D2:Hid ((zAa (val l' * 2^q2)).length<=256):=Yq (zAP _ 129 (by rw [L2.out];omega)) (by omega);have W1:IntKind.i64.wrap (x - mn)=(q1:Int):=by rw [hq1];exact IntWalk.i64_in _ (by omega)
 have W2:IntKind.i64.wrap (x' - mn)=(q2:Int):=by rw [hq2];exact IntWalk.i64_in _ (by omega)
 have E1:Hid ((x - mn).toNat=q1):=by unfold Hid;omega
 have E2:Hid ((x' - mn).toNat=q2):=by unfold Hid;omega
 clear hm3 hq1 hq2 P1 P2;go_wp2_with fail
 go_region_held3 (fun W=>W.cell? ⟨w.heap.size,1,none⟩=some (.slice A n c)/\W.cell? ⟨w.heap.size,2,none⟩=some (.int .i64 x)/\W.cell? ⟨w.heap.size+1,1,none⟩=some (.slice B m d)/\W.cell? ⟨w.heap.size+1,2,none⟩=some (.int .i64 x'))
  (first | exact ⟨s1,s2,t1,t2⟩ | exact zEf hbC (by simp;omega) (by simp;omega) ⟨s1,s2,t1,t2⟩ | exact zEf (zAA hbC hbD) (by simp;omega) (by simp;omega) ⟨s1,s2,t1,t2⟩)
  (first
   | (go_at_call 79; (with_reducible refine (zAs A n c q1 _ l _ h2.drew hn256 rfl hq1b D1.out).mono ?_);rintro e wC ⟨AC,nC,cC,rfl,hsC,hfC,hbC⟩)
   | (go_at_call 79; (with_reducible refine (zAs B m d q2 _ l' _ (h2'.drew.below hbC) hm256 rfl hq2b D2.out).mono ?_);rintro e wD ⟨AD,nD,cD,rfl,hsD,hfD,hbD⟩))
 have hbCD:=zAA hbC hbD;have k1D:=k1B.drew.below hbCD (by simp;omega);have k2D:=k2B.drew.below hbCD (by simp;omega);have k3D:=k3B.drew.below hbCD (by simp;omega);have hbwD:Below w.heap.size w wD:=zAA (zAR hbw 1) hbCD;have hsC2:=hsC.below hbD;have HTD:=Zh ((show zBx wB.drew from HTB.out).next hbCD);have hzD:w.heap.size+3<=wD.heap.size:=by have:=hbCD.size;simp at this;omega
 have hsz1:=hbC.size;simp at hsz1;have FC:Hid (zAn (w.heap.size+1) AC nC):=hfC.mono (by simp;omega);have FD:Hid (zAn (w.heap.size+1) AD nD):=hfD.mono (by omega);clear hsz1;have hnC:nC<=129:=by rw [<- hsC.len];exact zAP _ 129 (by rw [L1.out];omega)
 have hnD:nD<=129:=by rw [<- hsD.len];exact zAP _ 129 (by rw [L2.out];omega)
 clear k1B k2B k3B h2 h2' HTB hbC hbD hbCD hsC hfC hfD hzB W1 W2 D1 D2 s0 s1 s2 t0 t1 t2 r0 r1 r2 f0 f1 f2 hbw;obtain ⟨s0,s1,s2⟩:=k1D.cells3;obtain ⟨t0,t1,t2⟩:=k2D.cells3;obtain ⟨r0,r1,r2⟩:=k3D.cells3;have f0:=k3D.frozen 0;have f1:=k3D.frozen 1;have f2:=k3D.frozen 2;have hsb:(neg == neg')=false:=by simp [HSG.out]
 have HPQ:=Zh hpq;clear hpq;go_wp2_with fail
 refine (zDN AC AD nC cC nD cD _ _ _ hsC2 hsD).mono ?_;rintro e wX ⟨rfl,qX,rfl⟩
 rw [zAH,zAH];have hcm:¬ zCT (val l*2^q1) (val l' * 2^q2)<0:=by
  unfold zCT;have:=HPQ.out;rw [E1.out,E2.out] at this;rw [if_neg this]
  split <;> omega
 generalize zCT (val l*2^q1) (val l' * 2^q2)=zc at *;have HLE:Hid ((zAa (val l*2^q1 - val l' * 2^q2)).length<=256):=by
  have:=zCR (v:=val l*2^q1 - val l' * 2^q2) (zAk (val l*2^q1)) (by rw [hsC2.len];omega) (by rw [zAH];omega);exact this
 go_wp2_with fail
 refine (zJO AC AD nC cC nD cD _ _ _ (hsC2.drewN qX) (hsD.drewN qX) (by omega) (by omega) (by have:=HPQ.out;rw [E1.out,E2.out] at this;rw [zAH,zAH];omega)).mono ?_;rintro e wE ⟨AE,nE,cE,rfl,hsE,hfE,hbE'⟩
 have hbE:Below wD.heap.size wD wE:=zAA (zAR (Yp _ _) qX) hbE';rw [zAH,zAH] at hsE;have hbwE:=zAA hbwD hbE;have k1E:=k1D.below hbE (by omega);have k3E:=k3D.below hbE (by omega);have HTE:=Zh (HTD.out.next hbE);have hzE:w.heap.size+3<=wE.heap.size:=by have:=hbE.size;omega
 have SV:Hid (zDB neg neg' (val l*2^(x - mn).toNat) (val l' * 2^(x' - mn).toNat) mn=zAu neg (val l*2^q1 - val l' * 2^q2) mn):=by unfold Hid;rw [E1.out,E2.out];have hp:=HPQ.out;rw [E1.out,E2.out] at hp;rw [zDB,if_neg HSG.out,if_neg hp]
 generalize zDB neg neg' (val l*2^(x - mn).toNat) (val l' * 2^(x' - mn).toNat) mn=r at *;generalize val l*2^q1 - val l' * 2^q2=V at *;clear k1D k2D k3D HTD hzD hsC2 hsD hbE s0 s1 s2 t0 t1 t2 r0 r1 r2 f0 f1 f2 hbwD;obtain ⟨s0,s1,s2⟩:=k1E.cells3;obtain ⟨r0,r1,r2⟩:=k3E.cells3;have hnE:nE<=256:=by rw [<- hsE.len];exact HLE.out
 go_wp2_with fail
 refine (zAi neg AE nE cE _ mn _ hsE hnE (by omega) (by omega) HTE.out).mono ?_;rintro e wF ⟨AF,nF,cF,rfl,hsF,hfF,hbF⟩
 rw [zAH] at hsF ⊢;have hnF:nF<=256:=by
  rw [<- hsF.len];unfold zAN
  split
  ·simp [zAZ]
  ·exact zCR (zAk V) HLE.out (by rw [zAH];exact Nat.div_le_self _ _)
 have HD:Hid (zAu neg V mn=if inR (val (zAN neg V mn).l) (zAN neg V mn).e=true then (zAN neg V mn,0) else (zAZ,9)):=rfl;have hrd:r=if inR (val (zAN neg V mn).l) (zAN neg V mn).e=true then (zAN neg V mn,0) else (zAZ,9):=by rw [SV.out,HD.out]
 have HRD:=Zh hrd;clear hrd HD SV;generalize zAN neg V mn=dd at *;by_cases hr:inR (val dd.l) dd.e=true
 ·have hrr:r=(dd,0):=by rw [HRD.out,if_pos hr]
  subst hrr;go_wp2_with fail
  refine (zBf dd.neg AF nF cF dd.l dd.e _ hsF (by omega) hr).mono ?_;rintro e wG ⟨rfl,hbG⟩
  have hbFG:=zAA hbF hbG;have k3G:=k3E.below hbFG (by omega);obtain ⟨v0,v1,v2⟩:=k3G.cells3;have g0:=k3G.frozen 0;have g1:=k3G.frozen 1;have g2:=k3G.frozen 2;have hzG:w.heap.size+3<=wG.heap.size:=by have:=hbFG.size;omega
  clear hr HRD;go_wp2_with fail
  refine Yn (zBI Tryz.results177 rfl (k3G.set3 _ _ _)) rfl ?_;have hsG:=hsF.below hbG;have hlt:w.heap.size+1+1<wE.heap.size:=by omega
  exact ⟨AF,nF,cF,rfl,(((hsG.far hfF hlt 0 _).far hfF hlt 1 _).far hfF hlt 2 _),hfF.mono (by omega),zAG (zAA hbwE hbFG) (by omega) _ _ _⟩
 ·have hrr:r=(zAZ,9):=by rw [HRD.out,if_neg hr]
  subst hrr;go_wp2_with fail
  refine (zBJ dd.neg AF nF cF dd.l dd.e _ hsF (by omega) (by simpa using hr)).mono ?_;rintro e wG ⟨rfl,hbG⟩
  have hbFG:=zAA hbF hbG;have k3G:=k3E.below hbFG (by omega);obtain ⟨v0,v1,v2⟩:=k3G.cells3;have g0:=k3G.frozen 0;have g1:=k3G.frozen 1;have g2:=k3G.frozen 2;have hzG:w.heap.size+3<=wG.heap.size:=by have:=hbFG.size;omega
  clear hr HRD;go_wp2_with fail
  refine Yn (zBI Tryz.results177 rfl (k3G.set3 _ _ _)) rfl ?_;exact ⟨none,0,0,rfl,SL.nil _,zAn.zero,zAG (zAA hbwE hbFG) (by omega) _ _ _⟩
end Go.Proofs.YtngjhigieajkmaaGreatDoor
end
