/- Bundle 15: what the law's walk stands on: U24, Y1, Y2, Y3, Y4, Y0, Y5, Y6. -/
import Derived.Lib.AppendZeros
import Derived.Laws.AppendOwnNone
import Derived.Test.YtngjhigieajkmaaGreatDoorH12
import Derived.Test.YtngjhigieajkmaaGreatDoorH13
import Derived.Test.YtngjhigieajkmaaGreatDoorH14
set_option maxRecDepth 100000
set_option maxHeartbeats 20000000
set_option linter.all false
noncomputable section
namespace Go.Proofs.YtngjhigieajkmaaGreatDoor
open Go.RowKit Pl
theorem zsj:(Tryz.prog.info? 94).map (fun i=>(i.zero,i.size,i.bytes))=some (some (.agg #[.string ⟨#[]⟩,.int .i64 0,.int .i64 0,.int .i64 0,.int .i64 0]),5,48):=by kernel_rfl
theorem ztP (n:Nat) (hn:1<=n/\n<=100) (w:World):Calls Tryz.prog 148 #[.slice none 0 0,.int .i64 (n:Int)] w fun e w'=>∃v,e=.returned v/\zKf 94 5 w' w.heap.size v []/\Below w.heap.size w w':=by
 obtain ⟨iB,hiB,hzB,hsB,hyB⟩:=info_parts zsj;have hr:=Lib.run_append_nil_zeros (P:=Tryz.prog) w 22 3 22 94 iB _ .i64 .i64 Tryz.underlying22 Tryz.underlying3 hiB hzB n (by omega) (by omega) (by omega) (by rw [hyB];omega);have hge:=zKy w n 0 94;have hle:=grownCap_le_maxLen w n 0 94 (by simp only [maxLen];omega);have hle2:grownCap w n 0 94<=9223372036854775807:=by simpa [maxLen] using hle
 generalize hcap:grownCap w n 0 94=cap at *;have HR:=Zh hr;clear hr;go_enter Tryz.func148,Tryz.ntmps148
 go_wp2_with (at_builtin;refine Lib.wpList_append_run _ rfl _ _ _ _ rfl _ _ rfl rfl _ _ HR.out ?_)
 go_ret;have hz:∀k,(Builtin.zeroCells (#[.string ⟨#[]⟩,.int .i64 0,.int .i64 0,.int .i64 0,.int .i64 0]:Array Value) k).size=k*5:=fun k=>by simp [Builtin.zeroCells]
 refine ⟨_,rfl,⟨⟨rfl,.inr ⟨w.heap.size,cap,_,rfl,Ya _,Blk.new w.drew _ _,Nat.zero_le _,hle,?_,rfl⟩⟩,by simp⟩,?_⟩
 ·rw [Array.size_append]
  have h1:=hz n;have h2:=hz (cap - n);omega
 ·exact zAR (zAE w _) 1
def zqb (x:Dc):List Value:=[.string x.s,.int .i64 x.a,.int .i64 x.b,.int .i64 x.c,.int .i64 x.d]
theorem zsg {w:World}{ad:Addr}{n c:Nat}{xs:List Dc}(h:Sl 5 RDc w (some ad) n c xs):((xs.map zqb).flatten.length=n*5/\(∀u∈(xs.map zqb).flatten,u.oneCell' = true))/\∀ (j:Nat) (u:Value),(xs.map zqb).flatten[j]? = some u->w.cell? (ad.add j)=some u:=by
 have hk:∀f∈xs.map zqb,f.length=5:=fun f hf=>by
  obtain ⟨x,_,rfl⟩:=List.mem_map.1 hf;rfl
 have hl:(xs.map zqb).flatten.length=n*5:=by rw [zGp hk,Xe,h.len]
 refine ⟨⟨hl,fun u hu=>?_⟩,fun j u hj=>?_⟩
 ·obtain ⟨f,hf,hu⟩:=List.mem_flatten.1 hu
  obtain ⟨x,_,rfl⟩:=List.mem_map.1 hf;simp [zqb] at hu;rcases hu with rfl | rfl | rfl | rfl | rfl <;> rfl
 ·have hjl:=(Yb.1 hj).1
  have hq:j / 5<n:=by omega
  obtain ⟨b,off,x,vs,e,hb,hx,hv,hR,hc⟩:=h.get hq;injection e with e
  subst e;unfold RDc at hR;have hf:(xs.map zqb)[j / 5]? = some vs:=by rw [List.getElem?_map,hx,hR];rfl
  have hm:j%5<vs.length:=by rw [hv];omega
  have h5:=zEb hk (j / 5) (j%5) vs vs[j%5] hf (Yo hm);rw [show j / 5*5+j%5=j by omega,hj] at h5;injection h5 with h5
  have:=hc (j%5) _ (Yo hm);rw [ztg,h5,show off+j=off+j / 5*5+j%5 by omega];exact this
theorem zuJ {w:World}{base:Nat}{v:Value}{xs:List Dc}(h:zKf 94 5 w base v (xs.map zqb)):∃A c,v=.slice A xs.length c/\Sl 5 RDc w A xs.length c xs:=by
 obtain ⟨A,c,e,hs⟩:=h.sl (R:=RDc) (xs:=xs) (by rw [Xe]) (fun j f x hf hx=>by
  rw [List.getElem?_map,hx] at hf;injection hf with hf
  subst hf;rfl)
 rw [Xe] at e hs;exact ⟨A,c,e,hs⟩
theorem zsQ (g n c m q:Nat) (A B:Option Addr) (xs ys:List Dc) (w:World) (hg:Blk w g 22 #[.slice A n c,.slice B m q]) (h1:Sl 5 RDc w A n c xs) (h2:Sl 5 RDc w B m q ys) (hn:1<=n/\n<=4) (hm:m<=4) (hB:B=none->q=0) :
  Calls Tryz.prog 85 #[.slice (some ⟨g,0,none⟩) 2 2] w fun e w'=>∃C p,e=.returned (.slice C (n+m) p)/\Sl 5 RDc w' C (n+m) p (xs++ys)/\Below w.heap.size w w':=by
 obtain ⟨iB,hiB,hzB,hsB,hyB⟩:=info_parts zsj;have hgr:=ztP (n+m) (by omega) w;rw [Int.natCast_add] at hgr;have HG:=Zh hgr;clear hgr;have c0:w.cell? ⟨g,0,none⟩=some (.slice A n c):=hg.cell 0;have c1:w.cell? ⟨g,1,none⟩=some (.slice B m q):=hg.cell 1;have hcA:=h1.cap;have hmA:=h1.max;have hcB:=h2.cap;have hmB:=h2.max;have hlx:=h1.len;have hly:=h2.len;have HS1:=Zh h1;have HS2:=Zh h2;have HGB:=Zh hg;clear h1 h2 hg;go_enter Tryz.func85,Tryz.ntmps85
 go_wp2_with fail
 go_loopw [3,11] (fun s i wr=>((s=.int .i64 0/\i=.int .i64 0)\/(s=.int .i64 n/\i=.int .i64 1)\/(s=.int .i64 ((n+m:Nat):Int)/\i=.int .i64 2))/\wr=w) (fun _ i _=>2 - (intOf i).toNat)
 case atStart=>exact ⟨.inl ⟨rfl,rfl⟩,rfl⟩
 case round=>
  obtain ⟨hsi,hwr⟩:=hrel;obtain rfl:=hwr.symm;rcases hsi with ⟨rfl,rfl⟩ | ⟨rfl,rfl⟩ | ⟨rfl,rfl⟩
  ·go_wp2_with fail
   exact ⟨⟨.inr (.inl ⟨by go_num,by go_num⟩),trivial⟩,by simp [intOf]⟩
  ·go_wp2_with fail
   exact ⟨⟨.inr (.inr ⟨by go_num,by go_num⟩),trivial⟩,by simp [intOf]⟩
  ·go_wp2_with fail
   refine HG.out.mono ?_;rintro e w1 ⟨v1,rfl,ho1,hb1⟩
   have HO1:=Zh ho1;have HB1:=Zh hb1;clear ho1 hb1 c0 c1;go_wp2_with fail
   go_loopw [6,27] (fun v i wr=>Hid (Below w.heap.size w wr)/\((i=.int .i64 0/\Hid (zKf 94 5 wr w.heap.size v []))\/(i=.int .i64 1/\Hid (zKf 94 5 wr w.heap.size v (xs.map zqb)))\/(i=.int .i64 2/\Hid (zKf 94 5 wr w.heap.size v ((xs++ys).map zqb))))) (fun _ i _=>2 - (intOf i).toNat)
   case atStart=>exact ⟨HB1.out,.inl ⟨rfl,HO1.out⟩⟩
   case round=>
    obtain ⟨HB,hsi⟩:=hrel;have hsw:=HB.out.size;have c0:wr.cell? ⟨g,0,none⟩=some (.slice A n c):=(HGB.out.below HB.out HGB.out.lt).cell 0;have c1:wr.cell? ⟨g,1,none⟩=some (.slice B m q):=(HGB.out.below HB.out HGB.out.lt).cell 1;rcases hsi with ⟨rfl,HO⟩ | ⟨rfl,HO⟩ | ⟨rfl,HO⟩
    ·cases A with
     | none=>
      obtain ⟨b,off,e,_⟩:=HS1.out.at_ (by omega);cases e
     | some ad=>
      obtain ⟨⟨hl,h1c⟩,hc⟩:=zsg (HS1.out.next zqZ HB.out)
      go_wp2_with (at_builtin;go_loud (refine wpList_append_own_at _ rfl _ _ 22 rfl w.heap.size 94 iB _ 5 48 Tryz.underlying22 hiB hzB hsB hyB rfl (by omega) _ 0 [] rfl HO.out.own ad n c (xs.map zqb).flatten rfl hl ?c1 h1c ?c2 ?c3 ?c4 ?_))
      case c1=>exact hc
      case c2=>simp only [maxLen];omega
      case c3=>omega
      case c4=>omega
      intro v2 w2 ho2 hg2 _ _;have HB2:=Zh (HB.out.trans ((Yp w.heap.size _).grown hg2 (by omega) (fun k hk=>(HO.out.lt k hk).1)));have HO2:Hid (zKf 94 5 w2 w.heap.size v2 (xs.map zqb)):=⟨by rw [Xe,hlx];simpa using ho2,fun f hf=>by
       obtain ⟨x,_,rfl⟩:=List.mem_map.1 hf;rfl⟩
      clear ho2 hg2 hl h1c hc;go_wp2_with fail
      exact ⟨⟨HB2.out,.inr (.inl ⟨by go_num,HO2.out⟩)⟩,by simp [intOf]⟩
    ·cases B with
     | none=>
      have hq:=hB rfl;subst hq;have hm0:m=0:=by omega
      subst hm0;have hy:ys=[]:=List.eq_nil_of_length_eq_zero hly;subst hy
      go_wp2_with (at_builtin;go_loud (refine wpList_append_own_none rfl _ _ 22 rfl w.heap.size 94 iB 5 Tryz.underlying22 hiB _ _ _ rfl HO.out.own rfl ?_))
      exact ⟨⟨_,_,_,.inr (.inr ⟨rfl,HO.out⟩),rfl,rfl,rfl⟩,by simp [intOf]⟩
     | some ad=>
      obtain ⟨⟨hl,h1c⟩,hc⟩:=zsg (HS2.out.next zqZ HB.out);have hlm:(xs.map zqb).length=n:=by rw [Xe,hlx]
      go_wp2_with (at_builtin;go_loud (refine wpList_append_own_at _ rfl _ _ 22 rfl w.heap.size 94 iB _ 5 48 Tryz.underlying22 hiB hzB hsB hyB rfl (by omega) _ _ _ rfl HO.out.own ad m q (ys.map zqb).flatten rfl hl ?c1 h1c ?c2 ?c3 ?c4 ?_))
      case c1=>exact hc
      case c2=>simp only [maxLen];omega
      case c3=>omega
      case c4=>omega
      intro v2 w2 ho2 hg2 _ _;have HB2:=Zh (HB.out.trans ((Yp w.heap.size _).grown hg2 (by omega) (fun k hk=>(HO.out.lt k hk).1)));have HO2:Hid (zKf 94 5 w2 w.heap.size v2 ((xs++ys).map zqb)):=⟨by
       have e1:(ys.map zqb).length=m:=by rw [Xe,hly]
       rw [List.map_append,Yu,e1,hlm,List.flatten_append];exact ho2,fun f hf=>by
       obtain ⟨x,_,rfl⟩:=List.mem_map.1 hf;rfl⟩
      clear ho2 hg2 hl h1c hc;go_wp2_with fail
      exact ⟨⟨HB2.out,.inr (.inr ⟨by go_num,HO2.out⟩)⟩,by simp [intOf]⟩
    ·obtain ⟨C,p,hv,hs⟩:=zuJ HO.out
     have hlen:(xs++ys).length=n+m:=by rw [Yu,hlx,hly]
     rw [hlen] at hv hs;subst hv;have HS:=Zh hs;clear hs;go_wp2_with fail
     go_ret;exact ⟨C,p,rfl,HS.out,HB.out⟩
theorem zse (n:Int) (h:-1073741824<=n/\n<=1073741824) (w:World):Calls Tryz.prog 40 #[.int .i64 n] w fun e w'=>e=.returned (.int .u64 (n.natAbs:Int))/\w' = w:=by
 go_enter Tryz.func40,Tryz.ntmps40
 go_wp2_with fail
 ·go_ret
  exact ⟨by rw [show (n.natAbs:Int) = -(n+1)+1 by omega];rfl,rfl⟩
 ·go_ret
  exact ⟨by rw [show (n.natAbs:Int)=n by omega];rfl,rfl⟩
theorem ztO (a b:Nat) (ha:a<9223372036854775808) (hb:b<9223372036854775808) (w:World):Calls Tryz.prog 39 #[.int .u64 (a:Int),.int .u64 (b:Int)] w fun e w'=>e=.returned (.int .u64 (Nat.gcd a b:Nat))/\∃m,w' = w.drewN m:=by
 go_enter Tryz.func39,Tryz.ntmps39
 go_wp2_with fail
 go_loopw [0,1] (fun va vb wr=>∃x y:Nat,va=.int .u64 (x:Int)/\vb=.int .u64 (y:Int)/\Hid (Nat.gcd x y=Nat.gcd a b)/\x<9223372036854775808/\y<9223372036854775808/\∃m,wr=w.drewN m) (fun va vb _=>(intOf vb).toNat)
 case atStart=>exact ⟨a,b,rfl,rfl,rfl,ha,hb,0,rfl⟩
 case round=>
  obtain ⟨x,y,rfl,rfl,hg,hx,hy,m,rfl⟩:=hrel;by_cases h0:y=0
  ·subst h0
   go_wp2_with fail
   go_ret;refine ⟨?_,m,rfl⟩;have:=hg.out;rw [Nat.gcd_zero_right] at this;rw [<- this];rfl
  ·have hne:((y:Int) == 0)=false:=by simpa using h0
   go_wp2_with fail
   go_quiet (fail)
   go_wp2_with fail
   refine ⟨⟨y,x%y,rfl,by rw [Int.natCast_emod],?_,hy,Nat.lt_of_le_of_lt (Nat.mod_le _ _) hx,m+nq,by rw [World.drewN_drewN]⟩,?_⟩
   ·rw [Hid,Nat.gcd_comm,<- Nat.gcd_rec,Nat.gcd_comm]
    exact hg.out
   ·have:=Nat.mod_lt x (Nat.pos_of_ne_zero h0)
    simp only [intOf];rw [<- Int.natCast_emod,Int.toNat_natCast,Int.toNat_natCast];exact this
theorem zq8 (a b:Int) (w:World):Calls Tryz.prog 17 #[.agg #[.int .i64 a,.int .i64 b]] w (zBW (zrA a b) w):=by
 have hb0:=zAE w (.cells #[.int .i64 a,.int .i64 b] 25);have k0:=Blk.new w 25 #[.int .i64 a,.int .i64 b];have q0:(w.alloc (.cells #[.int .i64 a,.int .i64 b] 25)).cell? ⟨w.heap.size,0,none⟩=some (.int .i64 a):=k0.cell 0;have q1:(w.alloc (.cells #[.int .i64 a,.int .i64 b] 25)).cell? ⟨w.heap.size,1,none⟩=some (.int .i64 b):=k0.cell 1;clear k0;by_cases h0:(1:Int)<=b
 ·have d0:decide ((1:Int)<=b)=true:=Yf h0
  by_cases h1:b<=(1073741824:Int)
  ·have d1:decide (b<=(1073741824:Int))=true:=Yf h1
   by_cases h2:(-1073741824:Int)<=a
   ·have d2:decide ((-1073741824:Int)<=a)=true:=Yf h2
    by_cases h3:a<=(1073741824:Int)
    ·have d3:decide (a<=(1073741824:Int))=true:=Yf h3
     obtain ⟨x,hx⟩:∃x:Nat,x=a.natAbs:=⟨_,rfl⟩;obtain ⟨y,hy⟩:∃y:Nat,y=b.natAbs:=⟨_,rfl⟩;have HA:Hid (∀ (W:World) (n:Nat),Calls Tryz.prog 40 #[.int .i64 a] (W.drewN n) fun e w''=>e=.returned (.int .u64 (x:Int))/\∃m,w'' = W.drewN m):=fun W n=>by rw [hx];exact Calls.quiet_of_same (zse a ⟨h2,h3⟩ (W.drewN n))
     have hyb:(y:Int)=b:=by omega
     obtain ⟨g,hg⟩:∃g:Nat,g=Nat.gcd x y:=⟨_,rfl⟩;have hgl:g<=1073741824:=by rw [hg];exact Yq (Nat.gcd_le_right _ (by omega)) (by omega)
     have HG:Hid (∀ (W:World) (n:Nat),Calls Tryz.prog 39 #[.int .u64 (x:Int),.int .u64 b] (W.drewN n) fun e w''=>e=.returned (.int .u64 (g:Int))/\∃m,w'' = W.drewN m):=fun W n=>by
      have:=ztO x y (by omega) (by omega) (W.drewN n);rw [<- hg,hyb] at this;exact Calls.quiet_of this
     have hv:zrA a b=decide (g=1):=by unfold zrA;rw [hg,hx,hy,d0,d1,d2,d3];rfl
     rw [hv];clear hv hx hg h0 h1 h2 h3;by_cases hg1:g=1
     ·subst hg1
      have hbb:0<=b/\b<=1073741824:=by have:=of_decide_eq_true d0;have:=of_decide_eq_true d1;omega
      go_enter Tryz.func17,Tryz.ntmps17
      go_wp2_with fail
      generalize w.alloc (.cells #[.int .i64 a,.int .i64 b] 25)=W0 at *
      go_big_quiet (first | (go_at_call 40;exact HA.out _ _) | (go_at_call 39;exact HG.out _ _))
      go_wp2_with fail
      go_ret;exact ⟨rfl,zAR hb0 _⟩
     ·have e1:((g:Int) == 1)=false:=by simpa using (by omega:¬ (g:Int)=1)
      have hbb:0<=b/\b<=1073741824:=by have:=of_decide_eq_true d0;have:=of_decide_eq_true d1;omega
      rw [Ye hg1];go_enter Tryz.func17,Tryz.ntmps17
      go_wp2_with fail
      generalize w.alloc (.cells #[.int .i64 a,.int .i64 b] 25)=W0 at *
      go_big_quiet (first | (go_at_call 40;exact HA.out _ _) | (go_at_call 39;exact HG.out _ _))
      go_wp2_with fail
      go_ret;exact ⟨rfl,zAR hb0 _⟩
    ·have d3:decide (a<=(1073741824:Int))=false:=Ye h3
     have hv:zrA a b=false:=by unfold zrA;simp only [d3,Bool.false_and,Bool.and_false]
     rw [hv];clear hv h0 h1 h2 h3;go_enter Tryz.func17,Tryz.ntmps17
     go_wp2_with fail
     generalize w.alloc (.cells #[.int .i64 a,.int .i64 b] 25)=W0 at *
     go_big_quiet (fail)
     go_wp2_with fail
     go_ret;exact ⟨rfl,zAR hb0 _⟩
   ·have d2:decide ((-1073741824:Int)<=a)=false:=Ye h2
    have hv:zrA a b=false:=by unfold zrA;simp only [d2,Bool.false_and,Bool.and_false]
    rw [hv];clear hv h0 h1 h2;go_enter Tryz.func17,Tryz.ntmps17
    go_wp2_with fail
    generalize w.alloc (.cells #[.int .i64 a,.int .i64 b] 25)=W0 at *
    go_big_quiet (fail)
    go_wp2_with fail
    go_ret;exact ⟨rfl,zAR hb0 _⟩
  ·have d1:decide (b<=(1073741824:Int))=false:=Ye h1
   have hv:zrA a b=false:=by unfold zrA;simp only [d1,Bool.false_and,Bool.and_false]
   rw [hv];clear hv h0 h1;go_enter Tryz.func17,Tryz.ntmps17
   go_wp2_with fail
   generalize w.alloc (.cells #[.int .i64 a,.int .i64 b] 25)=W0 at *
   go_big_quiet (fail)
   go_wp2_with fail
   go_ret;exact ⟨rfl,zAR hb0 _⟩
 ·have d0:decide ((1:Int)<=b)=false:=Ye h0
  have hv:zrA a b=false:=by unfold zrA;simp only [d0,Bool.false_and,Bool.and_false]
  rw [hv];clear hv h0;go_enter Tryz.func17,Tryz.ntmps17
  go_wp2_with fail
  generalize w.alloc (.cells #[.int .i64 a,.int .i64 b] 25)=W0 at *
  go_big_quiet (fail)
  go_wp2_with fail
  go_ret;exact ⟨rfl,zAR hb0 _⟩
theorem zsZ (a b:Int) (w:World):Calls Tryz.prog 73 #[.int .i64 a,.int .i64 b] w fun e w'=>e=.returned (.int .i64 (if a<b then -1 else if b<a then 1 else 0))/\w' = w:=by
 by_cases h1:a<b
 ·rw [if_pos h1]
  go_enter Tryz.func73,Tryz.ntmps73
  go_wp2_with fail
  go_ret;exact ⟨rfl,rfl⟩
 ·rw [if_neg h1]
  by_cases h2:b<a
  ·rw [if_pos h2]
   go_enter Tryz.func73,Tryz.ntmps73
   go_wp2_with fail
   go_ret;exact ⟨rfl,rfl⟩
  ·rw [if_neg h2]
   go_enter Tryz.func73,Tryz.ntmps73
   go_wp2_with fail
   go_ret;exact ⟨rfl,rfl⟩
theorem zsx (a b c d:Int) (h1:zrA a b=true) (h2:zrA c d=true) (w:World):Calls Tryz.prog 44 #[.agg #[.int .i64 a,.int .i64 b],.agg #[.int .i64 c,.int .i64 d]] w fun e w'=>∃r:Int,e=.returned (.int .i64 r)/\(r<=0 ↔ a*d<=c*b)/\Below w.heap.size w w':=by
 have r1:=zrM h1;have r2:=zrM h2;have m1:=zsl ⟨r1.2.2.1,r1.2.2.2.1⟩ ⟨r2.1,r2.2.1⟩;have m2:=zsl ⟨r2.2.2.1,r2.2.2.2.1⟩ ⟨r1.1,r1.2.1⟩;have hwr1:IntKind.i64.wrap (a*d)=a*d:=IntWalk.i64_in _ (by omega);have hwr2:IntKind.i64.wrap (c*b)=c*b:=IntWalk.i64_in _ (by omega);have HA:=Zh (zq8 a b);rw [h1] at HA;have HC:=Zh (zq8 c d);rw [h2] at HC;obtain ⟨r,hr⟩:∃r:Int,r=if a*d<c*b then -1 else if c*b<a*d then 1 else 0:=⟨_,rfl⟩
 have HR:Hid (r<=0 ↔ a*d<=c*b):=by
  rw [Hid,hr]
  split
  ·constructor <;> intro <;> omega
  ·split
   ·constructor <;> intro <;> omega
   ·constructor <;> intro <;> omega
 have HO:Hid (∀ (W:World),Calls Tryz.prog 73 #[.int .i64 (a*d),.int .i64 (c*b)] W fun e w''=>e=.returned (.int .i64 r)/\w'' = W):=fun W=>by rw [hr];exact zsZ _ _ W
 obtain ⟨W0,e0,hb0,k0,k1⟩:=al2 w #[.int .i64 a,.int .i64 b] 25 #[.int .i64 c,.int .i64 d] 25;have q0:W0.cell? ⟨w.heap.size,0,none⟩=some (.int .i64 a):=k0.cell 0;have q1:W0.cell? ⟨w.heap.size,1,none⟩=some (.int .i64 b):=k0.cell 1;have HB0:=Zh hb0;have K0:=Zh k0;have K1:=Zh k1;clear h1 h2 r1 r2 hb0 k0 k1 hr;go_enter Tryz.func44,Tryz.ntmps44
 go_wp2_with fail
 clear e0 q0 q1;refine (HA.out _).mono ?_;rintro e w1 ⟨rfl,hb1⟩
 have q0:w1.cell? ⟨w.heap.size+1,0,none⟩=some (.int .i64 c):=(K1.out.below hb1 K1.out.lt).cell 0;have q1:w1.cell? ⟨w.heap.size+1,1,none⟩=some (.int .i64 d):=(K1.out.below hb1 K1.out.lt).cell 1;have HB1:=Zh hb1;clear hb1;go_wp2_with fail
 clear q0 q1;refine (HC.out _).mono ?_;rintro e w2 ⟨rfl,hb2⟩
 have hb12:=zAA HB1.out hb2;have q0:w2.cell? ⟨w.heap.size,0,none⟩=some (.int .i64 a):=(K0.out.below hb12 K0.out.lt).cell 0;have q1:w2.cell? ⟨w.heap.size,1,none⟩=some (.int .i64 b):=(K0.out.below hb12 K0.out.lt).cell 1;have q2:w2.cell? ⟨w.heap.size+1,0,none⟩=some (.int .i64 c):=(K1.out.below hb12 K1.out.lt).cell 0;have q3:w2.cell? ⟨w.heap.size+1,1,none⟩=some (.int .i64 d):=(K1.out.below hb12 K1.out.lt).cell 1;have HB:=Zh (zAA HB0.out hb12);clear hb2 hb12;go_wp2_with fail
 refine (HO.out _).mono ?_;rintro e w3 ⟨rfl,rfl⟩
 go_wp2_with fail
 go_ret;exact ⟨r,rfl,HR.out,HB.out⟩
theorem zr5 (c:UInt8) (w:World):Calls Tryz.prog 196 #[.int .u8 (c.toNat:Int)] w fun e w'=>e=.returned (.bool (zrt c))/\w' = w:=by
 obtain ⟨t,HT⟩:∃t,Hid (t=zrt c):=⟨_,rfl⟩;rw [<- HT.out];unfold zrt at HT;have hx:c.toNat<256:=c.toNat_lt;generalize c.toNat=x at *;by_cases h0:(97:Int)<=x
 ·have e0:decide ((97:Int)<=x)=true:=Yf h0
  by_cases h1:(x:Int)<=122
  ·have e1:decide ((x:Int)<=122)=true:=Yf h1
   obtain rfl:t=true:=by rw [HT.out];simp;omega
   clear HT;go_enter Tryz.func196,Tryz.ntmps196
   go_wp2_with fail
   go_ret;exact ⟨rfl,rfl⟩
  ·have e1:decide ((x:Int)<=122)=false:=Ye h1
   by_cases h2:(65:Int)<=x
   ·have e2:decide ((65:Int)<=x)=true:=Yf h2
    by_cases h3:(x:Int)<=90
    ·have e3:decide ((x:Int)<=90)=true:=Yf h3
     obtain rfl:t=true:=by rw [HT.out];simp;omega
     clear HT;go_enter Tryz.func196,Tryz.ntmps196
     go_wp2_with fail
     go_ret;exact ⟨rfl,rfl⟩
    ·have e3:decide ((x:Int)<=90)=false:=Ye h3
     obtain rfl:t=false:=by rw [HT.out];simp;omega
     clear HT;go_enter Tryz.func196,Tryz.ntmps196
     go_wp2_with fail
     go_ret;exact ⟨rfl,rfl⟩
   ·have e2:decide ((65:Int)<=x)=false:=Ye h2
    obtain rfl:t=false:=by rw [HT.out];simp;omega
    clear HT;go_enter Tryz.func196,Tryz.ntmps196
    go_wp2_with fail
    go_ret;exact ⟨rfl,rfl⟩
 ·have e0:decide ((97:Int)<=x)=false:=Ye h0
  by_cases h1:(65:Int)<=x
  ·have e1:decide ((65:Int)<=x)=true:=Yf h1
   by_cases h2:(x:Int)<=90
   ·have e2:decide ((x:Int)<=90)=true:=Yf h2
    obtain rfl:t=true:=by rw [HT.out];simp;omega
    clear HT;go_enter Tryz.func196,Tryz.ntmps196
    go_wp2_with fail
    go_ret;exact ⟨rfl,rfl⟩
   ·have e2:decide ((x:Int)<=90)=false:=Ye h2
    obtain rfl:t=false:=by rw [HT.out];simp;omega
    clear HT;go_enter Tryz.func196,Tryz.ntmps196
    go_wp2_with fail
    go_ret;exact ⟨rfl,rfl⟩
  ·have e1:decide ((65:Int)<=x)=false:=Ye h1
   obtain rfl:t=false:=by rw [HT.out];simp;omega
   clear HT;go_enter Tryz.func196,Tryz.ntmps196
   go_wp2_with fail
   go_ret;exact ⟨rfl,rfl⟩
theorem zr4 (c:UInt8) (w:World):Calls Tryz.prog 197 #[.int .u8 (c.toNat:Int)] w fun e w'=>e=.returned (.bool (zsS c))/\w' = w:=by
 obtain ⟨t,HT⟩:∃t,Hid (t=zsS c):=⟨_,rfl⟩;rw [<- HT.out];unfold zsS at HT;have hx:c.toNat<256:=c.toNat_lt;generalize c.toNat=x at *;by_cases h0:(48:Int)<=x
 ·have e0:decide ((48:Int)<=x)=true:=Yf h0
  by_cases h1:(x:Int)<=57
  ·have e1:decide ((x:Int)<=57)=true:=Yf h1
   obtain rfl:t=true:=by rw [HT.out];simp;omega
   clear HT;go_enter Tryz.func197,Tryz.ntmps197
   go_wp2_with fail
   go_ret;exact ⟨rfl,rfl⟩
  ·have e1:decide ((x:Int)<=57)=false:=Ye h1
   obtain rfl:t=false:=by rw [HT.out];simp;omega
   clear HT;go_enter Tryz.func197,Tryz.ntmps197
   go_wp2_with fail
   go_ret;exact ⟨rfl,rfl⟩
 ·have e0:decide ((48:Int)<=x)=false:=Ye h0
  obtain rfl:t=false:=by rw [HT.out];simp;omega
  clear HT;go_enter Tryz.func197,Tryz.ntmps197
  go_wp2_with fail
  go_ret;exact ⟨rfl,rfl⟩
theorem ztQ (c:UInt8) (w:World):Calls Tryz.prog 195 #[.int .u8 (c.toNat:Int)] w fun e w'=>e=.returned (.bool (zsK c || c.toNat == 46))/\w' = w:=by
 have HL:=Zh (zr5 c);have HD:=Zh (zr4 c);obtain ⟨t,HT⟩:∃t,Hid (t=(zsK c || c.toNat == 46)):=⟨_,rfl⟩;rw [<- HT.out];unfold zsK at HT;generalize c.toNat=x at *;cases hl:zrt c
 ·cases hd:zsS c
  ·rw [hl] at HL HT
   rw [hd] at HD HT;clear hl hd;by_cases h1:x=95
   ·subst h1
    obtain rfl:t=true:=by rw [HT.out];rfl
    clear HT;go_enter Tryz.func195,Tryz.ntmps195
    go_wp2_with (first | (go_at_call 196;refine (HL.out _).mono ?_;rintro e w' ⟨rfl,hw'⟩;obtain rfl:=hw'.symm) | (go_at_call 197;refine (HD.out _).mono ?_;rintro e w' ⟨rfl,hw'⟩;obtain rfl:=hw'.symm))
    go_ret;exact ⟨rfl,rfl⟩
   ·have e1:((x:Int) == 95)=false:=by simpa using (by omega:¬ (x:Int)=95)
    by_cases h2:x=46
    ·subst h2
     obtain rfl:t=true:=by rw [HT.out];rfl
     clear HT;go_enter Tryz.func195,Tryz.ntmps195
     go_wp2_with (first | (go_at_call 196;refine (HL.out _).mono ?_;rintro e w' ⟨rfl,hw'⟩;obtain rfl:=hw'.symm) | (go_at_call 197;refine (HD.out _).mono ?_;rintro e w' ⟨rfl,hw'⟩;obtain rfl:=hw'.symm))
     go_ret;exact ⟨rfl,rfl⟩
    ·have e2:((x:Int) == 46)=false:=by simpa using (by omega:¬ (x:Int)=46)
     obtain rfl:t=false:=by rw [HT.out];simp;omega
     clear HT;go_enter Tryz.func195,Tryz.ntmps195
     go_wp2_with (first | (go_at_call 196;refine (HL.out _).mono ?_;rintro e w' ⟨rfl,hw'⟩;obtain rfl:=hw'.symm) | (go_at_call 197;refine (HD.out _).mono ?_;rintro e w' ⟨rfl,hw'⟩;obtain rfl:=hw'.symm))
     go_ret;exact ⟨rfl,rfl⟩
  ·rw [hl] at HL HT
   rw [hd] at HD HT;clear hl hd;obtain rfl:t=true:=by rw [HT.out];rfl
   clear HT;go_enter Tryz.func195,Tryz.ntmps195
   go_wp2_with (first | (go_at_call 196;refine (HL.out _).mono ?_;rintro e w' ⟨rfl,hw'⟩;obtain rfl:=hw'.symm) | (go_at_call 197;refine (HD.out _).mono ?_;rintro e w' ⟨rfl,hw'⟩;obtain rfl:=hw'.symm))
   go_ret;exact ⟨rfl,rfl⟩
 ·rw [hl] at HL HT
  clear hl HD;obtain rfl:t=true:=by rw [HT.out];rfl
  clear HT;go_enter Tryz.func195,Tryz.ntmps195
  go_wp2_with (first | (go_at_call 196;refine (HL.out _).mono ?_;rintro e w' ⟨rfl,hw'⟩;obtain rfl:=hw'.symm) | (go_at_call 197;refine (HD.out _).mono ?_;rintro e w' ⟨rfl,hw'⟩;obtain rfl:=hw'.symm))
  go_ret;exact ⟨rfl,rfl⟩
def zrf (s:ByteArray):Bool:=s.data.toList.all zsK && (match s.data.toList with | []=>false | c::_=>zrt c)
theorem zsM {s:ByteArray}{j:Nat}(h:j<s.size):s.data.toList[j]? = some s[j]:=by
 rw [Array.getElem?_toList];exact Array.getElem?_eq_getElem h
theorem zti {s:ByteArray}{j:Nat}(h:j<s.size):s[j]∈s.data.toList:=Yk (zsM h)
theorem zq6 (s:ByteArray):s.data.toList.length=s.size:=by rw [Array.length_toList];rfl
theorem zuR {c:UInt8}(h:c.toNat=46):zsK c=false:=by simp [zsK,zrt,zsS,h]
theorem ztD (s:ByteArray) (hs:s.size<=9223372036854775807) (w:World):Calls Tryz.prog 136 #[.string s] w fun e w'=>e=.returned (.bool (zrf s))/\w' = w:=by
 have HR:=Zh (fun (j:Nat) (hj:j<s.size) (w:World)=>ztQ s[j] w);have HLs:=Zh (fun (j:Nat) (hj:j<s.size) (w:World)=>zr5 s[j] w);obtain ⟨t,HT⟩:∃t,Hid (t=zrf s):=⟨_,rfl⟩;rw [<- HT.out];go_enter Tryz.func136,Tryz.ntmps136
 go_wp2_with fail
 go_loopw [3] (fun i wr=>∃j:Nat,j<=s.size/\i=.int .i64 j/\Hid (∀m,(hm:m<s.size)->m<j->zsK s[m]=true)/\wr=w) (fun i _=>s.size - (intOf i).toNat)
 case atStart=>exact ⟨0,Nat.zero_le _,rfl,fun m _ hm=>absurd hm (by omega),rfl⟩
 case round=>
  obtain ⟨j,hj,rfl,HZ,hwr⟩:=hrel;obtain rfl:=hwr.symm;by_cases hlt:j<s.size
  ·have HJ:=Zh (HR.out j hlt)
   have HN:=Zh (show zsK s[j]=false->t=false from fun h=>by
    rw [HT.out,zrf,List.all_eq_false.2 ⟨s[j],zti hlt,by simp [h]⟩];rfl)
   by_cases hd:s[j].toNat=46
   ·obtain rfl:t=false:=HN.out (zuR hd)
    have hd':((s[j].toNat:Int) == 46)=true:=by rw [hd];rfl
    clear HN HT HR HLs HZ;go_wp2_with fail
    go_ret;exact ⟨rfl,rfl⟩
   ·have hd':((s[j].toNat:Int) == 46)=false:=by simpa using (by omega:¬ (s[j].toNat:Int)=46)
    have hdn:(s[j].toNat == 46)=false:=by simpa using hd
    rw [hdn,Bool.or_false] at HJ;cases hr:zsK s[j]
    ·obtain rfl:t=false:=HN.out hr
     rw [hr] at HJ;clear HN HT HR HLs HZ hr hd hdn
     go_wp2_with (go_at_call 195;refine (HJ.out _).mono ?_;rintro e w' ⟨rfl,hw'⟩;obtain rfl:=hw'.symm)
     go_ret;exact ⟨rfl,rfl⟩
    ·rw [hr] at HJ
     have HZ':Hid (∀m,(hm:m<s.size)->m<j+1->zsK s[m]=true):=fun m hm h=>by
      by_cases hmj:m<j
      ·exact HZ.out m hm hmj
      ·obtain rfl:m=j:=by omega
       exact hr
     clear HN hr hd hdn HZ
     go_wp2_with (go_at_call 195;refine (HJ.out _).mono ?_;rintro e w' ⟨rfl,hw'⟩;obtain rfl:=hw'.symm)
     go_roundw
     case rel=>exact ⟨j+1,by omega,by go_num,HZ'.out,by first | rfl | trivial⟩
     case measure=>simp [intOf];omega
  ·obtain rfl:j=s.size:=by omega
   have HA:Hid (s.data.toList.all zsK=true):=by
    rw [Hid,List.all_eq_true];intro c hc;obtain ⟨m,hm⟩:=List.mem_iff_getElem?.1 hc;have hml:m<s.size:=by rw [<- zq6];exact (Yb.1 hm).1
    rw [zsM hml] at hm;injection hm with hm
    rw [<- hm];exact HZ.out m hml hml
   by_cases h0:0<s.size
   ·have hn:(s.toList == [])=false:=by
     rw [Lib.toList_data];cases hl:s.data.toList with
     | nil=>have:=zq6 s;rw [hl] at this;simp at this;omega
     | cons c r=>rfl
    have HL:=Zh (HLs.out 0 h0);have hv:t=zrt s[0]:=by
     rw [HT.out,zrf,HA.out];have:=zsM h0;cases hl:s.data.toList with
     | nil=>rw [hl] at this;simp at this
     | cons c r=>rw [hl] at this;simp at this;rw [<- this];rfl
    rw [<- hv] at HL;clear hv HT HR HLs HZ HA
    go_wp2_with (go_at_call 196;refine (HL.out _).mono ?_;rintro e w' ⟨rfl,hw'⟩;obtain rfl:=hw'.symm)
    go_ret;exact ⟨rfl,rfl⟩
   ·have hz:s.size=0:=by omega
    have hnl:s.data.toList=[]:=List.eq_nil_of_length_eq_zero (by rw [zq6,hz]);have hn:(s.toList == [])=true:=by rw [Lib.toList_data,hnl];rfl
    obtain rfl:t=false:=by rw [HT.out,zrf,hnl];rfl
    clear HT HR HLs HZ HA hnl;go_wp2_with fail
    go_ret;exact ⟨rfl,rfl⟩
def zvn (w:World) (e:Ending) (w':World):Prop:=∃ (n:Int) (t:Bool),e=.returned (.tuple #[.int .i64 n,.bool t])/\w' = w
theorem zvn.mk {w w':World}{e:Ending}{n:Int}{t:Bool}(h:e=.returned (.tuple #[.int .i64 n,.bool t])) (hw:w' = w):zvn w e w':=⟨n,t,h,hw⟩
theorem zsY (s:ByteArray) (hs:s.size<=9223372036854775807) (w:World):Calls Tryz.prog 137 #[.string s] w (zvn w):=by
 have HDs:=Zh (fun (j:Nat) (hj:j<s.size) (w:World)=>zr4 s[j] w);go_enter Tryz.func137,Tryz.ntmps137
 go_wp2_with fail
 go_loopw [4,5,6] (fun p d i wr=>∃a b j:Nat,j<=s.size/\a<=j/\b<=j/\p=.int .i64 a/\d=.int .i64 b/\i=.int .i64 j/\wr=w) (fun _ _ i _=>s.size - (intOf i).toNat)
 case atStart=>exact ⟨0,0,0,Nat.zero_le _,Ya _,Ya _,rfl,rfl,rfl,rfl⟩
 case round=>
  obtain ⟨a,b,j,hj,ha,hb,rfl,rfl,rfl,hwr⟩:=hrel;obtain rfl:=hwr.symm;by_cases hlt:j<s.size
  ·have HJ:=Zh (HDs.out j hlt)
   clear HDs;by_cases hd:s[j].toNat=46
   ·have hd':((s[j].toNat:Int) == 46)=true:=by rw [hd];rfl
    clear hd;go_wp2_with fail
    go_roundw
    case rel=>exact ⟨a+1,b,j+1,by omega,by omega,by omega,by go_num,by first | rfl | trivial,by go_num,by first | rfl | trivial⟩
    case measure=>simp [intOf];omega
   ·have hd':((s[j].toNat:Int) == 46)=false:=by simpa using (by omega:¬ (s[j].toNat:Int)=46)
    clear hd;cases hg:zsS s[j]
    ·rw [hg] at HJ
     clear hg
     go_wp2_with (go_at_call 197;refine (HJ.out _).mono ?_;rintro e w' ⟨rfl,hw'⟩;obtain rfl:=hw'.symm)
     go_ret2
     exact zvn.mk rfl rfl
    ·rw [hg] at HJ
     clear hg
     go_wp2_with (go_at_call 197;refine (HJ.out _).mono ?_;rintro e w' ⟨rfl,hw'⟩;obtain rfl:=hw'.symm)
     go_roundw
     case rel=>exact ⟨a,b+1,j+1,by omega,by omega,by omega,by first | rfl | trivial,by go_num,by go_num,by first | rfl | trivial⟩
     case measure=>simp [intOf];omega
  ·obtain rfl:j=s.size:=by omega
   clear HDs;by_cases h0:0<s.size
   ·have hn:(s.toList == [])=false:=by
     rw [Lib.toList_data];cases hl:s.data.toList with
     | nil=>have:=zq6 s;rw [hl] at this;simp at this;omega
     | cons c r=>rfl
    have hl1:s.size - 1<s.size:=by omega
    have hc:((s.size:Int) - 1)=((s.size - 1:Nat):Int):=by omega
    go_wp2_with fail
    all_goals (go_ret2;exact zvn.mk rfl rfl)
   ·have hz:s.size=0:=by omega
    have hnl:s.data.toList=[]:=List.eq_nil_of_length_eq_zero (by rw [zq6,hz]);have hn:(s.toList == [])=true:=by rw [Lib.toList_data,hnl];rfl
    clear hnl;go_wp2_with fail
    all_goals (go_ret2;exact zvn.mk rfl rfl)
theorem zs4 (s:ByteArray) (hs:s.size<=9223372036854775807) (w:World):Calls Tryz.prog 69 #[.string s] w fun e w'=>∃k n:Int,e=.returned (.tuple #[.int .i64 k,.int .i64 n])/\(k == 1)=(zrf s && decide (s.size<=20))/\w' = w:=by
 have HW:=Zh (ztD s hs);have HM:=Zh (zsY s hs);obtain ⟨t,HT⟩:∃t,Hid (t=zrf s):=⟨_,rfl⟩;rw [<- HT.out];rw [<- HT.out] at HW;clear HT;cases t
 ·go_enter Tryz.func69,Tryz.ntmps69
  go_wp2_with (first | (go_at_call 136;refine (HW.out _).mono ?_;rintro e w' ⟨rfl,hw'⟩;obtain rfl:=hw'.symm) | (go_at_call 137;refine (HM.out _).mono ?_;rintro e w' ⟨n,t,rfl,hw'⟩;obtain rfl:=hw'.symm))
  all_goals (go_ret2;exact ⟨_,_,rfl,rfl,rfl⟩)
 ·by_cases h:s.size<=20
  ·rw [Yf h]
   go_enter Tryz.func69,Tryz.ntmps69
   go_wp2_with (go_at_call 136;refine (HW.out _).mono ?_;rintro e w' ⟨rfl,hw'⟩;obtain rfl:=hw'.symm)
   go_ret2
   exact ⟨_,_,rfl,rfl,rfl⟩
  ·rw [Ye h]
   go_enter Tryz.func69,Tryz.ntmps69
   go_wp2_with (go_at_call 136;refine (HW.out _).mono ?_;rintro e w' ⟨rfl,hw'⟩;obtain rfl:=hw'.symm)
   go_ret2
   exact ⟨_,_,rfl,rfl,rfl⟩
theorem zRp {w:World}{g:Nat}{t:TypeId}{xs:List ByteArray}(h:Blk w g t (xs.map Value.string).toArray) (hl:xs.length<=9223372036854775807):Sl 1 zql w (some ⟨g,0,none⟩) xs.length xs.length xs:=
 ⟨rfl,Ya _,hl,fun _=>⟨g,0,rfl,h.lt,fun j x hj=>⟨[.string x],rfl,rfl,fun i v hv=>by
  have hi:i=0:=by
   have:=(Yb.1 hv).1
   simpa using this
  subst hi;rw [h.cell];simp at hv;subst hv;simp [hj]⟩⟩⟩
def ztC:List ByteArray:=zt0.map fun l=>⟨l.toArray⟩
theorem zt1 (s:ByteArray):zt0.contains s.toList=true ↔ s∈ztC:=by
 rw [List.contains_iff_mem,ztC,List.mem_map];constructor
 ·intro h
  exact ⟨s.toList,h,by rw [Lib.toList_data]⟩
 ·rintro ⟨l,hl,rfl⟩
  rw [Lib.toList_data];exact hl
theorem zsE (w:World):Calls Tryz.prog 138 #[] w fun e w'=>e=.returned (.slice (some ⟨w.heap.size,0,none⟩) 15 15)/\Sl 1 zql w' (some ⟨w.heap.size,0,none⟩) 15 15 ztC/\Below w.heap.size w w':=by
 have hk:∀t,Sl 1 zql (w.alloc (.cells (ztC.map Value.string).toArray t)) (some ⟨w.heap.size,0,none⟩) 15 15 ztC:=fun t=>zRp (Blk.new w t _) (by decide)
 have HK:=Zh hk;clear hk;go_enter Tryz.func138,Tryz.ntmps138
 go_wp2_with fail
 go_ret;exact ⟨rfl,HK.out _,zAE _ _⟩
def zrl (s:ByteArray):Nat->List ByteArray->Int
 | _,[]=>-1
 | k,x::xs=>if x=s then (k:Int) else zrl s (k+1) xs
theorem zqy (s:ByteArray):∀ (k:Nat) (xs:List ByteArray),0<=zrl s k xs ↔ s∈xs
 | k,[]=>by simp [zrl]
 | k,x::xs=>by
  unfold zrl
  split
  ·rename_i h
   subst h;simp
  ·rename_i h
   rw [zqy s (k+1) xs,List.mem_cons];exact ⟨.inr,fun h'=>h'.resolve_left fun e=>h e.symm⟩
theorem ztl {α:Type}{l:List α}{j:Nat}{y:α}(h:l[j]? = some y):l.drop j=y::l.drop (j+1):=by
 obtain ⟨hj,rfl⟩:=Yb.1 h;rw [List.drop_eq_getElem_cons hj]
theorem zqx (A:Option Addr) (n c:Nat) (xs:List ByteArray) (s:ByteArray) (w1:World) (h:Sl 1 zql w1 A n c xs) :
  Calls Tryz.prog 72 #[.slice A n c,.string s] w1 fun e w'=>e=.returned (.int .i64 (zrl s 0 xs))/\w' = w1:=by
 have hn:=h.cap;have hm:=h.max;have HL:=Zh h.len;have HS:=Zh h;have HP0:Hid (zrl s 0 (xs.drop 0)=zrl s 0 xs):=rfl;generalize zrl s 0 xs=r at *;clear h;go_enter Tryz.func72,Tryz.ntmps72
 go_wp2_with fail
 go_loopw [5] (fun i wr=>∃j:Nat,j<=n/\i=.int .i64 j/\Hid (zrl s j (xs.drop j)=r)/\wr=w1) (fun i _=>n - (intOf i).toNat)
 case atStart=>exact ⟨0,Nat.zero_le _,rfl,HP0.out,rfl⟩
 case round=>
  obtain ⟨j,hj,rfl,HZ,hwr⟩:=hrel;obtain rfl:=hwr.symm;by_cases hlt:j<n
  ·obtain ⟨b,off,x,vs,rfl,hbl,hx,hk,hR,hc⟩:=HS.out.get hlt
   unfold zql at hR;subst hR;have q0:=hc 0 _ rfl;rw [Nat.mul_one,Nat.add_zero] at q0;have HZ2:Hid (zrl s j (x::xs.drop (j+1))=r):=by have:=HZ.out;rwa [ztl hx] at this
   clear hx hc hk HS HZ;go_wp2_with fail
   ·have he:=zrS (by assumption)
    have hr:r=j:=by have:=HZ2.out;unfold zrl at this;rw [if_pos he] at this;exact this.symm
    subst hr;go_ret;exact ⟨rfl,rfl⟩
   ·have he:=zrn (by assumption)
    have HZ3:Hid (zrl s (j+1) (xs.drop (j+1))=r):=by have:=HZ2.out;unfold zrl at this;rwa [if_neg (fun e=>he e.symm)] at this
    exact ⟨⟨j+1,by omega,by go_num,HZ3.out,trivial⟩,by simp [intOf];omega⟩
  ·have hr:r = -1:=by
    have:=HZ.out;rw [List.drop_eq_nil_of_le (by have:=HL.out;omega)] at this;exact this.symm
   subst hr;go_wp2_with fail
   go_ret;exact ⟨rfl,rfl⟩
theorem zrs (s:ByteArray) (w:World):Calls Tryz.prog 70 #[.string s] w (zBW (zt0.contains s.toList) w):=by
 have HR:=Zh (zsE w);have HT:=Zh (zt1 s);generalize hxs:ztC=xs at *;generalize zt0.contains s.toList=t at *;go_enter Tryz.func70,Tryz.ntmps70
 go_wp2_with fail
 refine HR.out.mono ?_;rintro e w1 ⟨rfl,h,hb⟩
 obtain ⟨n,hn15⟩:∃n:Nat,n=15:=⟨_,rfl⟩;have HL:=Zh h.len;have HS:=Zh h;have HB:=Zh hb;clear h hb hxs HR;have e15:(15:Int)=((n:Nat):Int):=by rw [hn15];rfl
 have hm:n<=9223372036854775807:=by omega
 rw [<- hn15] at HL HS ⊢;clear hn15 e15;go_wp2_with fail
 go_loopw [4] (fun i wr=>∃j:Nat,j<=n/\i=.int .i64 j/\Hid (∀m x,m<j->xs[m]? = some x->x≠s)/\wr=w1) (fun i _=>n - (intOf i).toNat)
 case atStart=>exact ⟨0,Nat.zero_le _,rfl,fun m x hm=>absurd hm (by omega),rfl⟩
 case round=>
  obtain ⟨j,hj,rfl,HZ,hwr⟩:=hrel;obtain rfl:=hwr.symm;by_cases hlt:j<n
  ·obtain ⟨b,off,x,vs,ea,hbl,hx,hk,hR,hc⟩:=HS.out.get hlt
   cases ea;unfold zql at hR;subst hR;have q0:=hc 0 _ rfl;rw [Nat.mul_one,Nat.add_zero,Nat.zero_add] at q0;have HX:=Zh hx;clear hx hc hk HS;go_wp2_with fail
   ·have he:=zrS (by assumption)
    obtain rfl:t=true:=HT.out.2 (Yk (i:=j) (by rw [<- he];exact HX.out));go_ret;exact ⟨rfl,HB.out⟩
   ·have he:=zrn (by assumption)
    refine ⟨⟨j+1,by omega,by go_num,fun m y hm hy=>?_,trivial⟩,by simp [intOf];omega⟩;by_cases hmj:m<j
    ·exact HZ.out m y hmj hy
    ·obtain rfl:m=j:=by omega
     rw [HX.out] at hy;injection hy with hy
     rw [<- hy];exact he.symm
  ·have hno:¬ t=true:=fun h=>by
    obtain ⟨m,hm1⟩:=List.mem_iff_getElem?.1 (HT.out.1 h);exact absurd rfl (HZ.out m s (by
     have:=(Yb.1 hm1).1;have:=HL.out;omega) hm1)
   obtain rfl:t=false:=by cases t <;> simp at hno ⊢
   clear hno HT;go_wp2_with fail
   go_ret;exact ⟨rfl,HB.out⟩
theorem ztu (s:ByteArray):zqn s=(zrf s && decide (s.size<=20) && !zt0.contains s.toList):=by
 unfold zqn zrf;have e:decide (s.data.size<=20)=decide (s.size<=20):=rfl;rw [e,Bool.and_comm (s.data.toList.all zsK)];rfl
theorem zqp (s:ByteArray) (hs:s.size<=9223372036854775807) (w:World):Calls Tryz.prog 35 #[.string s] w (zBW (zqn s) w):=by
 have HK:=Zh (zs4 s hs);have HW:=Zh (zrs s);rw [ztu];generalize (zrf s && decide (s.size<=20))=t at *;generalize zt0.contains s.toList=u at *;go_enter Tryz.func35,Tryz.ntmps35
 go_wp2_with fail
 refine (HK.out _).mono ?_;rintro e w' ⟨k,n,rfl,hk,hw'⟩
 obtain rfl:=hw'.symm;clear HK;cases t
 ·go_wp2_with fail
  go_ret;exact ⟨rfl,Yp _ _⟩
 ·go_wp2_with fail
  refine (HW.out _).mono ?_;rintro e w' ⟨rfl,hb⟩
  have HB:=Zh hb;clear hb;go_wp2_with fail
  go_ret;exact ⟨rfl,HB.out⟩
theorem zst (k:Int) (w:World):Calls Tryz.prog 198 #[.int .i64 k] w fun e w'=>e=.returned (.int .i64 (zrD k))/\w' = w:=by
 by_cases hk:k=1\/k=2\/k=3\/k=4\/k=5\/k=6\/k=7\/k=8\/k=9\/k=10\/k=11\/k=12\/k=13
 ·rcases hk with rfl | rfl | rfl | rfl | rfl | rfl | rfl | rfl | rfl | rfl | rfl | rfl | rfl <;>
  ·go_enter Tryz.func198,Tryz.ntmps198
   go_wp2_with fail
   go_ret;exact ⟨rfl,rfl⟩
 ·have hv:zrD k = -1:=by
   unfold zrD;rw [if_neg (by omega),if_neg (by omega),if_neg (by omega)]
  rw [hv];have e1:(k == 1)=false:=by simpa using (by omega:¬ k=1)
  have e2:(k == 2)=false:=by simpa using (by omega:¬ k=2)
  have e3:(k == 3)=false:=by simpa using (by omega:¬ k=3)
  have e4:(k == 4)=false:=by simpa using (by omega:¬ k=4)
  have e5:(k == 5)=false:=by simpa using (by omega:¬ k=5)
  have e6:(k == 6)=false:=by simpa using (by omega:¬ k=6)
  have e7:(k == 7)=false:=by simpa using (by omega:¬ k=7)
  have e8:(k == 8)=false:=by simpa using (by omega:¬ k=8)
  have e9:(k == 9)=false:=by simpa using (by omega:¬ k=9)
  have e10:(k == 10)=false:=by simpa using (by omega:¬ k=10)
  have e11:(k == 11)=false:=by simpa using (by omega:¬ k=11)
  have e12:(k == 12)=false:=by simpa using (by omega:¬ k=12)
  have e13:(k == 13)=false:=by simpa using (by omega:¬ k=13)
  clear hk hv;go_enter Tryz.func198,Tryz.ntmps198
  go_wp2_with fail
  go_ret;exact ⟨rfl,rfl⟩
theorem ztv (x:Xn):zre x=(decide ((x.l.length:Int)=zrD x.k) && (if x.k=1 then zrA x.a x.b else decide (x.a=0) && decide (x.b=0)) && (if x.k=2 then zqn x.s else decide (x.s=⟨#[]⟩)) && (decide (x.n=0) || decide (x.k=8) && decide (0<x.n) && decide (x.n<=16))):=rfl
theorem zrp {s:ByteArray}(h:¬ s=⟨#[]⟩):(s.toList == [])=false:=by
 rw [Lib.toList_data];cases hl:s.data.toList with
 | nil=>
  exfalso
  apply h
  cases s;simp at hl;subst hl;rfl
 | cons c r=>rfl
theorem ztk {s:ByteArray}(h:¬ s=⟨#[]⟩):s.toList.isEmpty=false:=by
 have:=zrp h;cases hl:s.toList with
 | nil=>rw [hl] at this;cases this
 | cons c r=>rfl
theorem zs9 (F:Nat->Prop) (d:Nat) (us:List Value) (x:Xn) (w:World) (h:RX F d w us x) (hsz:x.s.size<=9223372036854775807):Calls Tryz.prog 139 #[.agg us.toArray] w (zBW (zre x) w):=by
 obtain ⟨A,m,c,d',rfl,rfl,hS,-⟩:=h.open;have hm:=hS.cap;have hm2:=hS.max;obtain ⟨t,HT⟩:∃t,Hid (t=zre x):=⟨_,rfl⟩;rw [<- HT.out];rw [ztv,hS.len] at HT;clear hS h;have HN:=Zh (zqp x.s hsz);have HV:=Zh (zq8 x.a x.b);generalize zqn x.s=nm at *;generalize zrA x.a x.b=rt at *;generalize x.k=k at *;generalize x.a=a at *;generalize x.b=b at *;generalize x.s=s at *;generalize x.n=n at *;have HO:Hid (∀ (W:World) (n:Nat),Calls Tryz.prog 198 #[.int .i64 k] (W.drewN n) fun e w''=>e=.returned (.int .i64 (zrD k))/\∃z,w'' = W.drewN z):=fun W n=>Calls.quiet_of_same (zst k (W.drewN n))
 obtain ⟨W0,e0,hb0,k0⟩:=al1 w #[.int .i64 k,.int .i64 a,.int .i64 b,.string s,.int .i64 n,.slice A m c] 82;obtain ⟨q0,q1,q2,q3,q4,q5⟩:=zqv k0;have K0:=Zh k0;have HB0:=Zh hb0;clear k0 hb0;by_cases hA:(m:Int)=zrD k
 ·have hr:=zrV hA
  rw [<- hA] at HO;by_cases k1:k=1
  ·subst k1
   cases rt
   ·rw [Yf hA] at HT
    obtain rfl:t=false:=by rw [HT.out];simp
    clear HT hA hr HN;go_enter Tryz.func139,Tryz.ntmps139
    go_wp2_with fail
    clear e0
    go_big_quiet (first | (go_at_call 198;exact HO.out _ _))
    go_wp2_with fail
    clear q0 q1 q2 q3 q4 q5;refine (HV.out _).mono ?_;rintro e w' ⟨rfl,hb'⟩
    replace K0:=Zh ((K0.out.drewN _).below hb' K0.out.lt);replace HB0:=Zh (zAA (zAR HB0.out _) hb');clear hb';obtain ⟨q0,q1,q2,q3,q4,q5⟩:=zqv K0.out;go_wp2_with fail
    go_ret;exact ⟨rfl,HB0.out⟩
   ·by_cases hs:s=⟨#[]⟩
    ·subst hs
     by_cases hn:n=0
     ·subst hn
      rw [Yf hA] at HT;obtain rfl:t=true:=by rw [HT.out];simp
      clear HT hA hr HN;go_enter Tryz.func139,Tryz.ntmps139
      go_wp2_with fail
      clear e0
      go_big_quiet (first | (go_at_call 198;exact HO.out _ _))
      go_wp2_with fail
      clear q0 q1 q2 q3 q4 q5;refine (HV.out _).mono ?_;rintro e w' ⟨rfl,hb'⟩
      replace K0:=Zh ((K0.out.drewN _).below hb' K0.out.lt);replace HB0:=Zh (zAA (zAR HB0.out _) hb');clear hb';obtain ⟨q0,q1,q2,q3,q4,q5⟩:=zqv K0.out;go_wp2_with fail
      go_ret;exact ⟨rfl,HB0.out⟩
     ·have e5:(n == 0)=false:=by simpa using hn
      rw [Yf hA] at HT;obtain rfl:t=false:=by rw [HT.out];simp [hn]
      clear HT hA hr HN hn;go_enter Tryz.func139,Tryz.ntmps139
      go_wp2_with fail
      clear e0
      go_big_quiet (first | (go_at_call 198;exact HO.out _ _))
      go_wp2_with fail
      clear q0 q1 q2 q3 q4 q5;refine (HV.out _).mono ?_;rintro e w' ⟨rfl,hb'⟩
      replace K0:=Zh ((K0.out.drewN _).below hb' K0.out.lt);replace HB0:=Zh (zAA (zAR HB0.out _) hb');clear hb';obtain ⟨q0,q1,q2,q3,q4,q5⟩:=zqv K0.out;go_wp2_with fail
      go_ret;exact ⟨rfl,HB0.out⟩
    ·have e4:=zrp hs
     rw [Yf hA] at HT;obtain rfl:t=false:=by rw [HT.out];simp [hs]
     clear HT hA hr HN hs;go_enter Tryz.func139,Tryz.ntmps139
     go_wp2_with fail
     clear e0
     go_big_quiet (first | (go_at_call 198;exact HO.out _ _))
     go_wp2_with fail
     clear q0 q1 q2 q3 q4 q5;refine (HV.out _).mono ?_;rintro e w' ⟨rfl,hb'⟩
     replace K0:=Zh ((K0.out.drewN _).below hb' K0.out.lt);replace HB0:=Zh (zAA (zAR HB0.out _) hb');clear hb';obtain ⟨q0,q1,q2,q3,q4,q5⟩:=zqv K0.out;go_wp2_with fail
     go_ret;exact ⟨rfl,HB0.out⟩
  ·have e1:(k == 1)=false:=by simpa using k1
   have e1n:(k != 1)=true:=by simp [bne,e1]
   by_cases ha:a=0
   ·subst ha
    by_cases hb:b=0
    ·subst hb
     by_cases k2:k=2
     ·subst k2
      cases nm
      ·rw [Yf hA] at HT
       obtain rfl:t=false:=by rw [HT.out];simp
       clear HT hA hr HV;go_enter Tryz.func139,Tryz.ntmps139
       go_wp2_with fail
       clear e0
       go_big_quiet (first | (go_at_call 198;exact HO.out _ _))
       go_wp2_with fail
       clear q0 q1 q2 q3 q4 q5;refine (HN.out _).mono ?_;rintro e w' ⟨rfl,hb'⟩
       replace K0:=Zh ((K0.out.drewN _).below hb' K0.out.lt);replace HB0:=Zh (zAA (zAR HB0.out _) hb');clear hb';obtain ⟨q0,q1,q2,q3,q4,q5⟩:=zqv K0.out;go_wp2_with fail
       go_ret;exact ⟨rfl,HB0.out⟩
      ·by_cases hn:n=0
       ·subst hn
        rw [Yf hA] at HT;obtain rfl:t=true:=by rw [HT.out];simp
        clear HT hA hr HV;go_enter Tryz.func139,Tryz.ntmps139
        go_wp2_with fail
        clear e0
        go_big_quiet (first | (go_at_call 198;exact HO.out _ _))
        go_wp2_with fail
        clear q0 q1 q2 q3 q4 q5;refine (HN.out _).mono ?_;rintro e w' ⟨rfl,hb'⟩
        replace K0:=Zh ((K0.out.drewN _).below hb' K0.out.lt);replace HB0:=Zh (zAA (zAR HB0.out _) hb');clear hb';obtain ⟨q0,q1,q2,q3,q4,q5⟩:=zqv K0.out;go_wp2_with fail
        go_ret;exact ⟨rfl,HB0.out⟩
       ·have e5:(n == 0)=false:=by simpa using hn
        have e5n:(n != 0)=true:=by simp [bne,e5]
        rw [Yf hA] at HT;obtain rfl:t=false:=by rw [HT.out];simp [hn]
        clear HT hA hr HV;go_enter Tryz.func139,Tryz.ntmps139
        go_wp2_with fail
        clear e0
        go_big_quiet (first | (go_at_call 198;exact HO.out _ _))
        go_wp2_with fail
        clear q0 q1 q2 q3 q4 q5;refine (HN.out _).mono ?_;rintro e w' ⟨rfl,hb'⟩
        replace K0:=Zh ((K0.out.drewN _).below hb' K0.out.lt);replace HB0:=Zh (zAA (zAR HB0.out _) hb');clear hb';obtain ⟨q0,q1,q2,q3,q4,q5⟩:=zqv K0.out;go_wp2_with fail
        go_ret;exact ⟨rfl,HB0.out⟩
     ·have e2:(k == 2)=false:=by simpa using k2
      have e2n:(k != 2)=true:=by simp [bne,e2]
      by_cases hs:s=⟨#[]⟩
      ·subst hs
       by_cases hn:n=0
       ·subst hn
        rw [Yf hA] at HT;obtain rfl:t=true:=by rw [HT.out];simp [k1,k2]
        clear HT hA hr HV HN;go_enter Tryz.func139,Tryz.ntmps139
        go_wp2_with fail
        clear e0
        go_big_quiet (first | (go_at_call 198;exact HO.out _ _))
        go_wp2_with fail
        all_goals first | (exfalso;omega) | (go_ret;exact ⟨by first | rfl | (simp_all),zAR HB0.out _⟩)
       ·have e5:(n == 0)=false:=by simpa using hn
        have e5n:(n != 0)=true:=by simp [bne,e5]
        by_cases k8:k=8
        ·subst k8
         by_cases hn1:0<n
         ·by_cases hn2:n<=16
          ·rw [Yf hA] at HT
           obtain rfl:t=true:=by rw [HT.out];simp [hn1,hn2]
           clear HT hA hr HV HN;go_enter Tryz.func139,Tryz.ntmps139
           go_wp2_with fail
           clear e0
           go_big_quiet (first | (go_at_call 198;exact HO.out _ _))
           go_wp2_with fail
           all_goals first | (exfalso;omega) | (go_ret;exact ⟨by first | rfl | (simp_all),zAR HB0.out _⟩)
          ·rw [Yf hA] at HT
           obtain rfl:t=false:=by rw [HT.out];simp [hn,hn2]
           clear HT hA hr HV HN;go_enter Tryz.func139,Tryz.ntmps139
           go_wp2_with fail
           clear e0
           go_big_quiet (first | (go_at_call 198;exact HO.out _ _))
           go_wp2_with fail
           all_goals first | (exfalso;omega) | (go_ret;exact ⟨by first | rfl | (simp_all),zAR HB0.out _⟩)
         ·rw [Yf hA] at HT
          obtain rfl:t=false:=by rw [HT.out];simp [hn,hn1]
          clear HT hA hr HV HN;go_enter Tryz.func139,Tryz.ntmps139
          go_wp2_with fail
          clear e0
          go_big_quiet (first | (go_at_call 198;exact HO.out _ _))
          go_wp2_with fail
          all_goals first | (exfalso;omega) | (go_ret;exact ⟨by first | rfl | (simp_all),zAR HB0.out _⟩)
        ·have e8:(k == 8)=false:=by simpa using k8
         have e8n:(k != 8)=true:=by simp [bne,e8]
         rw [Yf hA] at HT;obtain rfl:t=false:=by rw [HT.out];simp [hn,k8]
         clear HT hA hr HV HN;go_enter Tryz.func139,Tryz.ntmps139
         go_wp2_with fail
         clear e0
         go_big_quiet (first | (go_at_call 198;exact HO.out _ _))
         go_wp2_with fail
         all_goals first | (exfalso;omega) | (go_ret;exact ⟨by first | rfl | (simp_all),zAR HB0.out _⟩)
      ·have e4:=zrp hs
       have e4n:=ztk hs;rw [Yf hA] at HT;obtain rfl:t=false:=by rw [HT.out];simp [k2,hs]
       clear HT hA hr HV HN;go_enter Tryz.func139,Tryz.ntmps139
       go_wp2_with fail
       clear e0
       go_big_quiet (first | (go_at_call 198;exact HO.out _ _))
       go_wp2_with fail
       all_goals first | (exfalso;omega) | (go_ret;exact ⟨by first | rfl | (simp_all),zAR HB0.out _⟩)
    ·have e3:(b == 0)=false:=by simpa using hb
     have e3n:(b != 0)=true:=by simp [bne,e3]
     rw [Yf hA] at HT;obtain rfl:t=false:=by rw [HT.out];simp [k1,hb]
     clear HT hA hr HV HN;go_enter Tryz.func139,Tryz.ntmps139
     go_wp2_with fail
     clear e0
     go_big_quiet (first | (go_at_call 198;exact HO.out _ _))
     go_wp2_with fail
     all_goals first | (exfalso;omega) | (go_ret;exact ⟨by first | rfl | (simp_all),zAR HB0.out _⟩)
   ·have e3:(a == 0)=false:=by simpa using ha
    have e3n:(a != 0)=true:=by simp [bne,e3]
    rw [Yf hA] at HT;obtain rfl:t=false:=by rw [HT.out];simp [k1,ha]
    clear HT hA hr HV HN;go_enter Tryz.func139,Tryz.ntmps139
    go_wp2_with fail
    clear e0
    go_big_quiet (first | (go_at_call 198;exact HO.out _ _))
    go_wp2_with fail
    all_goals first | (exfalso;omega) | (go_ret;exact ⟨by first | rfl | (simp_all),zAR HB0.out _⟩)
 ·have eA:((m:Int) == zrD k)=false:=by simpa using hA
  rw [Ye hA] at HT;obtain rfl:t=false:=by rw [HT.out];simp
  clear HT hA HV HN;go_enter Tryz.func139,Tryz.ntmps139
  go_wp2_with fail
  clear e0
  go_big_quiet (first | (go_at_call 198;exact HO.out _ _))
  go_wp2_with fail
  all_goals first | (exfalso;omega) | (go_ret;exact ⟨by first | rfl | (simp_all),zAR HB0.out _⟩)
def SzX (x:Xn):Prop:=∀y∈x.flat,y.s.size<=9223372036854775807
theorem zr1:∀ {l:List Xn}{x y:Xn},x∈l->y∈x.flat->y∈Xn.flats l
 | z::l,x,y,h,hy=>by
  rw [Xn.flats,Yt];rcases List.mem_cons.1 h with rfl | h
  ·exact .inl hy
  ·exact .inr (zr1 h hy)
theorem zr9:∀ {l:List Xn}{y:Xn},y∈Xn.flats l->∃x∈l,y∈x.flat
 | [],y,h=>by rw [Xn.flats] at h;cases h
 | z::l,y,h=>by
  rw [Xn.flats,Yt] at h;rcases h with h | h
  ·exact ⟨z,by simp,h⟩
  ·obtain ⟨x,h1,h2⟩:=zr9 h
   exact ⟨x,by simp [h1],h2⟩
theorem SzX.self {x:Xn}(h:SzX x):x.s.size<=9223372036854775807:=h x (by rw [Xn.flat_eq];simp)
theorem SzX.kid {x y:Xn}(h:SzX x) (hy:y∈x.l):SzX y:=fun z hz=>h z (by rw [Xn.flat_eq];exact List.mem_cons_of_mem _ (zr1 hy hz))
theorem SzX.mk {x:Xn}(h:x.s.size<=9223372036854775807) (hk:∀y∈x.l,SzX y):SzX x:=fun z hz=>by
 rw [Xn.flat_eq] at hz;rcases List.mem_cons.1 hz with rfl | hz
 ·exact h
 ·obtain ⟨y,hy,hzy⟩:=zr9 hz
  exact hk y hy z hzy
def SzS (s:ByteArray):Prop:=s.size<=9223372036854775807
def SzQ (x:Eq1):Prop:=SzS x.s/\SzX x.e
structure SzE (x:Ed):Prop where
 g:SzX x.g
 to:SzS x.to
 rs:∀y∈x.rs,SzQ y
structure SzM (x:Md):Prop where
 s:SzS x.s
 flow:∀y∈x.flow,SzQ y
 edges:∀y∈x.edges,SzE y
structure SzP (p:Pb):Prop where
 states:∀d∈p.states,SzS d.s
 params:∀d∈p.params,SzS d.s
 modes:∀m∈p.modes,SzM m
theorem ztL (f:Xn->Nat) (a:Nat) (xs:List Xn) (h:¬ a<=200):zrg f a xs=a:=by
 cases xs with
 | nil=>rfl
 | cons x xs=>unfold zrg;rw [if_neg h]
theorem ztj {α:Type}{l:List α}{j:Nat}{y:α}(h:l[j]? = some y):l.drop j=y::l.drop (j+1):=by
 obtain ⟨hj,rfl⟩:=Yb.1 h;rw [List.drop_eq_getElem_cons hj]
theorem zsR:∀ (l d:Nat) (F:Nat->Prop) (us:List Value) (x:Xn) (L:Int) (w:World),L=l->l<=20->RX F d w us x->SzX x->
  Calls Tryz.prog 71 #[.agg us.toArray,.int .i64 L] w fun e w'=>e=.returned (.int .i64 (cnt l x:Nat))/\Below w.heap.size w w':=by
 intro l
 induction l with
 | zero=>
  intro d F us x L w hL _ hx hz;obtain ⟨A,m,c,d',rfl,rfl,-,-⟩:=hx.open;obtain rfl:L=0:=hL;obtain ⟨W0,e0,hb0,k0⟩:=al1 w #[.int .i64 x.k,.int .i64 x.a,.int .i64 x.b,.string x.s,.int .i64 x.n,.slice A m c] 82;obtain ⟨q0,q1,q2,q3,q4,q5⟩:=zqv k0;have HB0:=Zh hb0;clear hx hz hb0 k0;go_enter Tryz.func71,Tryz.ntmps71
  go_wp2_with fail
  go_ret;exact ⟨rfl,HB0.out⟩
 | succ l ih=>
  intro d F us x L w hL hl hx hz;have hL0:(L == 0)=false:=by simpa using (by omega:¬ L=0)
  have hLb:1<=L/\L<=20:=by omega
  have HX:=Zh hx;obtain ⟨A,m,c,d',rfl,rfl,hS,-⟩:=hx.open;have hm:=hS.cap;have hm2:=hS.max;have HS:=Zh hS;obtain ⟨W0,e0,hb0,k0⟩:=al1 w #[.int .i64 x.k,.int .i64 x.a,.int .i64 x.b,.string x.s,.int .i64 x.n,.slice A m c] 82;obtain ⟨q0,q1,q2,q3,q4,q5⟩:=zqv k0;have HN:=Zh (zs9 F _ _ x W0 (zqX _ _ _ _ _ _ hx hb0) hz.self);have HIH:=Zh ih;have HZ:=Zh hz;have HL:=Zh hL;have K0:=Zh k0;have HB0:=Zh hb0;clear hx hS hb0 k0 ih hz hL HX;cases hn:zre x
  ·rw [hn] at HN
   have hv:cnt (l+1) x=1048576:=by unfold cnt;rw [if_neg (by rw [hn];simp)]
   rw [hv];clear hn hv;go_enter Tryz.func71,Tryz.ntmps71
   go_wp2_with fail
   clear e0 q0 q1 q2 q3 q4 q5;refine HN.out.mono ?_;rintro e w' ⟨rfl,hb'⟩
   replace HB0:=Zh (zAA HB0.out hb');clear hb';go_wp2_with fail
   go_ret;exact ⟨rfl,HB0.out⟩
  ·rw [hn] at HN
   have hv:cnt (l+1) x=zrg (cnt l) 1 x.l:=by
    show (if zre x=true then zrg (cnt l) 1 x.l else 1048576)=_
    rw [if_pos hn]
   rw [hv];have HD:Hid (zrg (cnt l) 1 (x.l.drop 0)=zrg (cnt l) 1 x.l):=rfl;generalize zrg (cnt l) 1 x.l=R at *;clear hn hv;go_enter Tryz.func71,Tryz.ntmps71
   go_wp2_with fail
   clear e0;clear q0 q1 q2 q3 q4 q5;refine (HN.out).mono ?_;rintro e w' ⟨rfl,hb'⟩
   replace K0:=Zh (K0.out.below hb' K0.out.lt);replace HB0:=Zh (zAA HB0.out hb');clear hb';obtain ⟨q0,q1,q2,q3,q4,q5⟩:=zqv K0.out;go_wp2_with fail
   have HW:=Zh HB0.out;generalize w' = W1 at *
   go_loopw [5,6] (fun vn vi wr=>∃a j:Nat,j<=m/\a<=1100000/\vn=.int .i64 a/\vi=.int .i64 j/\Hid (zrg (cnt l) a (x.l.drop j)=R)/\Hid (Below W1.heap.size W1 wr)) (fun _ vi _=>m - (intOf vi).toNat)
   case atStart=>exact ⟨1,0,Nat.zero_le _,by omega,rfl,rfl,HD.out,Yp _ _⟩
   case round=>
    obtain ⟨a,j,hj,ha,rfl,rfl,HC,HB⟩:=hrel;clear q0 q1 q2 q3 q4 q5;obtain ⟨q0,q1,q2,q3,q4,q5⟩:=zqv (K0.out.below HB.out K0.out.lt);by_cases hlt:j<m
    ·by_cases ha2:a<=200
     ·obtain ⟨b,off,y,vs,rfl,hbl,hy,hlk,hRy,hc⟩:=HS.out.get hlt
      have hBw:=zAA HW.out HB.out;have hc':∀ (i:Nat) (v:Value),vs[i]? = some v->wr.cell? ⟨b,off+j*6+i,none⟩=some v:=fun i v h=>(hBw.cell (p:=⟨b,off+j*6+i,none⟩) hbl).trans (hc i v h)
      have hcall:=HIH.out d' F vs y (L - 1) wr (by have:=HL.out;omega) (by omega) (zqX _ _ _ _ _ _ hRy hBw) (HZ.out.kid (Yk hy));have hcl:=ztM l y;have HCY:Hid (zrg (cnt l) (a+cnt l y) (x.l.drop (j+1))=R):=by
       have:=HC.out;rw [ztj hy] at this;unfold zrg at this;rw [if_pos ha2] at this;exact this
      generalize cnt l y=cy at *;obtain ⟨v0,v1,v2,v3,v4,v5,rfl⟩:=zrj hlk;have r0:=hc' 0 _ rfl;have r1:=hc' 1 _ rfl;have r2:=hc' 2 _ rfl;have r3:=hc' 3 _ rfl;have r4:=hc' 4 _ rfl;have r5:=hc' 5 _ rfl;rw [Nat.add_zero] at r0;have HP:=Zh hcall;clear hc hc' hRy hlk hy hcall hBw;go_wp2_with fail
      refine HP.out.mono ?_;rintro e w2 ⟨rfl,hb2⟩
      have HB2:=Zh (zAA HB.out hb2);clear hb2;go_wp2_with fail
      go_roundw
      case rel=>exact ⟨a+cy,j+1,by omega,by omega,by go_num,by go_num,HCY.out,HB2.out⟩
      case measure=>simp [intOf];omega
     ·have hR:R=a:=by
       have:=HC.out;rw [ztL _ _ _ ha2] at this;exact this.symm
      subst hR;go_wp2_with fail
      go_ret;exact ⟨rfl,zAA HW.out HB.out⟩
    ·have hR:R=a:=by
      have:=HC.out;rw [List.drop_eq_nil_of_le (by have:=HS.out.len;omega)] at this;exact this.symm
     subst hR;go_wp2_with fail
     go_ret;exact ⟨rfl,zAA HW.out HB.out⟩
theorem zrH (F:Nat->Prop) (d:Nat) (us:List Value) (x:Xn) (w:World) (hx:RX F d w us x) (hz:SzX x):Calls Tryz.prog 36 #[.agg us.toArray] w (zBW (xvP x) w):=by
 obtain ⟨A,m,c,d',rfl,rfl,-,-⟩:=hx.open;obtain ⟨W0,e0,hb0,k0⟩:=al1 w #[.int .i64 x.k,.int .i64 x.a,.int .i64 x.b,.string x.s,.int .i64 x.n,.slice A m c] 82;obtain ⟨q0,q1,q2,q3,q4,q5⟩:=zqv k0;have HC:=Zh (zsR 20 _ F _ x 20 W0 rfl (by omega) (zqX _ _ _ _ _ _ hx hb0) hz);have hcl:=ztM 20 x;unfold xvP;generalize cnt 20 x=n at *;have HB0:=Zh hb0;clear hx hz hb0 k0;by_cases h:n<=200
 ·rw [Yf h]
  go_enter Tryz.func36,Tryz.ntmps36
  go_wp2_with fail
  clear e0 q0 q1 q2 q3 q4 q5;refine HC.out.mono ?_;rintro e w1 ⟨rfl,hb1⟩
  replace HB0:=Zh (zAA HB0.out hb1);clear hb1;have hd:decide ((n:Int)<=200)=true:=Yf (by omega);go_wp2_with fail
  go_ret;exact ⟨rfl,HB0.out⟩
 ·rw [Ye h]
  go_enter Tryz.func36,Tryz.ntmps36
  go_wp2_with fail
  clear e0 q0 q1 q2 q3 q4 q5;refine HC.out.mono ?_;rintro e w1 ⟨rfl,hb1⟩
  replace HB0:=Zh (zAA HB0.out hb1);clear hb1;have hd:decide ((n:Int)<=200)=false:=Ye (by omega);go_wp2_with fail
  go_ret;exact ⟨rfl,HB0.out⟩
theorem zwT {w:World}{g:Nat}{t:TypeId}{a b c d:Value}(h:Blk w g t #[a,b,c,d]):w.cell? ⟨g,0,none⟩=some a/\w.cell? ⟨g,1,none⟩=some b/\w.cell? ⟨g,2,none⟩=some c/\w.cell? ⟨g,3,none⟩=some d:=⟨h.cell 0,h.cell 1,h.cell 2,h.cell 3⟩
theorem zsb (a b c d:Int) (w:World):Calls Tryz.prog 38 #[.agg #[.int .i64 a,.int .i64 b,.int .i64 c,.int .i64 d]] w (zBW (zrA a b && zrA c d) w):=by
 have HA:=Zh (zq8 a b);have HC:=Zh (zq8 c d);obtain ⟨W0,e0,hb0,k0⟩:=al1 w #[.int .i64 a,.int .i64 b,.int .i64 c,.int .i64 d] 91;obtain ⟨q0,q1,q2,q3⟩:=zwT k0;have K0:=Zh k0;have HB0:=Zh hb0;clear k0 hb0;cases h:zrA a b
 ·rw [h] at HA
  clear h;go_enter Tryz.func38,Tryz.ntmps38
  go_wp2_with fail
  clear e0;clear q0 q1 q2 q3;refine (HA.out _).mono ?_;rintro e w' ⟨rfl,hb'⟩
  replace K0:=Zh (K0.out.below hb' K0.out.lt);replace HB0:=Zh (zAA HB0.out hb');clear hb';obtain ⟨q0,q1,q2,q3⟩:=zwT K0.out;go_wp2_with fail
  go_ret;exact ⟨rfl,HB0.out⟩
 ·rw [Bool.true_and]
  rw [h] at HA;clear h;go_enter Tryz.func38,Tryz.ntmps38
  go_wp2_with fail
  clear e0;clear q0 q1 q2 q3;refine (HA.out _).mono ?_;rintro e w' ⟨rfl,hb'⟩
  replace K0:=Zh (K0.out.below hb' K0.out.lt);replace HB0:=Zh (zAA HB0.out hb');clear hb';obtain ⟨q0,q1,q2,q3⟩:=zwT K0.out;go_wp2_with fail
  clear q0 q1 q2 q3;refine (HC.out _).mono ?_;rintro e w' ⟨rfl,hb'⟩
  replace K0:=Zh (K0.out.below hb' K0.out.lt);replace HB0:=Zh (zAA HB0.out hb');clear hb';obtain ⟨q0,q1,q2,q3⟩:=zwT K0.out;go_wp2_with fail
  go_ret;exact ⟨rfl,HB0.out⟩
theorem zrP {α:Type}{f:α->Bool}{xs:List α}{j:Nat}{y:α}(hy:xs[j]? = some y) (h:f y=false):xs.all f=false:=List.all_eq_false.2 ⟨y,Yk hy,by simp [h]⟩
theorem zrU {α:Type}{f:α->Bool}{xs:List α}(h:∀m y,m<xs.length->xs[m]? = some y->f y=true):xs.all f=true:=by
 rw [List.all_eq_true];intro y hy;obtain ⟨m,hm⟩:=List.mem_iff_getElem?.1 hy;exact h m y (Yb.1 hm).1 hm
theorem zrJ {α:Type}{f:α->Bool}{xs:List α}{j:Nat}{y:α}(hy:xs[j]? = some y) (h:f y=true) (hz:∀m z,m<j->xs[m]? = some z->f z=true):∀m z,m<j+1->xs[m]? = some z->f z=true:=fun m z hm hzz=>by
 by_cases hmj:m<j
 ·exact hz m z hmj hzz
 ·obtain rfl:m=j:=by omega
  rw [hy] at hzz;injection hzz with hzz
  rw [<- hzz];exact h
theorem zrW (A:Option Addr) (n c:Nat) (xs:List Dc) (w:World) (h:Sl 5 RDc w A n c xs) (hz:∀d∈xs,SzS d.s):Calls Tryz.prog 16 #[.slice A n c] w (zBW (xs.all dcP) w):=by
 have hn:=h.cap;have hm:=h.max;have HS:=Zh h;have HZ:=Zh hz;obtain ⟨t,HT⟩:∃t,Hid (t=xs.all dcP):=⟨_,rfl⟩;rw [<- HT.out];clear h hz;go_enter Tryz.func16,Tryz.ntmps16
 go_wp2_with fail
 go_loopw [3] (fun i wr=>∃j:Nat,j<=n/\i=.int .i64 j/\Hid (∀m y,m<j->xs[m]? = some y->dcP y=true)/\Hid (Below w.heap.size w wr)) (fun i _=>n - (intOf i).toNat)
 case atStart=>exact ⟨0,Nat.zero_le _,rfl,fun m y hm=>absurd hm (by omega),Yp _ _⟩
 case round=>
  obtain ⟨j,hj,rfl,HQ,HB⟩:=hrel;by_cases hlt:j<n
  ·obtain ⟨b,off,y,vs,rfl,hbl,hy,hlk,hRy,hc⟩:=HS.out.get hlt
   have hRr:vs=zqb y:=hRy;subst hRr;have q0:=(HB.out.cell (p:=⟨b,off+j*5,none⟩) hbl).trans (hc 0 _ rfl);have HCs:=Zh (fun (W:World) (hb:Below wr.heap.size wr W)=>(⟨((zAA HB.out hb).cell (p:=⟨b,off+j*5+1,none⟩) hbl).trans (hc 1 _ rfl),((zAA HB.out hb).cell (p:=⟨b,off+j*5+2,none⟩) hbl).trans (hc 2 _ rfl),((zAA HB.out hb).cell (p:=⟨b,off+j*5+3,none⟩) hbl).trans (hc 3 _ rfl),((zAA HB.out hb).cell (p:=⟨b,off+j*5+4,none⟩) hbl).trans (hc 4 _ rfl)⟩:W.cell? ⟨b,off+j*5+1,none⟩=some (.int .i64 y.a)/\W.cell? ⟨b,off+j*5+2,none⟩=some (.int .i64 y.b)/\W.cell? ⟨b,off+j*5+3,none⟩=some (.int .i64 y.c)/\W.cell? ⟨b,off+j*5+4,none⟩=some (.int .i64 y.d)));have HN:=Zh (zqp y.s (HZ.out y (Yk hy)) wr);have HR:=Zh (zsb y.a y.b y.c y.d);have HY:=Zh hy;have HE:Hid (dcP y=(zqn y.s && (zrA y.a y.b && zrA y.c y.d))):=rfl;clear hRy hc hlk hy;cases hv:zqn y.s
   ·rw [hv] at HN
    obtain rfl:t=false:=by rw [HT.out];exact zrP HY.out (by rw [HE.out,hv];rfl)
    clear hv HT HE;go_wp2_with fail
    clear q0;refine HN.out.mono ?_;rintro e w1 ⟨rfl,hb1⟩
    have HB1:=Zh (zAA HB.out hb1);clear hb1;go_wp2_with fail
    go_ret;exact ⟨rfl,HB1.out⟩
   ·rw [hv] at HN
    rw [hv,Bool.true_and] at HE;clear hv;cases hv:(zrA y.a y.b && zrA y.c y.d)
    ·rw [hv] at HR
     obtain rfl:t=false:=by rw [HT.out];exact zrP HY.out (by rw [HE.out,hv])
     clear hv HT HE;go_wp2_with fail
     clear q0;refine HN.out.mono ?_;rintro e w1 ⟨rfl,hb1⟩
     have HB1:=Zh (zAA HB.out hb1);obtain ⟨q1,q2,q3,q4⟩:=HCs.out w1 hb1;clear hb1;go_wp2_with fail
     refine (HR.out _).mono ?_;rintro e w2 ⟨rfl,hb2⟩
     replace HB1:=Zh (zAA HB1.out hb2);clear hb2 q1 q2 q3 q4;go_wp2_with fail
     go_ret;exact ⟨rfl,HB1.out⟩
    ·rw [hv] at HR
     have HQ2:=Zh (zrJ HY.out (by rw [HE.out,hv]) HQ.out);clear hv HE;go_wp2_with fail
     clear q0;refine HN.out.mono ?_;rintro e w1 ⟨rfl,hb1⟩
     have HB1:=Zh (zAA HB.out hb1);obtain ⟨q1,q2,q3,q4⟩:=HCs.out w1 hb1;clear hb1;go_wp2_with fail
     refine (HR.out _).mono ?_;rintro e w2 ⟨rfl,hb2⟩
     replace HB1:=Zh (zAA HB1.out hb2);clear hb2 q1 q2 q3 q4;go_wp2_with fail
     go_roundw
     case rel=>exact ⟨j+1,by omega,by go_num,HQ2.out,HB1.out⟩
     case measure=>simp [intOf];omega
  ·obtain rfl:t=true:=by rw [HT.out];exact zrU fun m y hm hy=>HQ.out m y (by have:=HS.out.len;omega) hy
   go_wp2_with fail
   go_ret;exact ⟨rfl,HB.out⟩
theorem zsz (F:Nat->Prop) (d:Nat) (us:List Value) (x:Ed) (w:World) (h:REd F d w us x) (hz:SzE x):Calls Tryz.prog 37 #[.agg us.toArray] w (zBW (edP x) w):=by
 obtain ⟨A,m,c,B,n,q,rfl,hX,hS⟩:=h.open;have hn:=hS.cap;have hm:=hS.max;have HS:=Zh hS;have HZ:=Zh hz.rs;obtain ⟨t,HT⟩:∃t,Hid (t=edP x):=⟨_,rfl⟩;rw [<- HT.out];unfold edP at HT;rw [hS.len] at HT;have HN:=Zh (zqp x.to hz.to);obtain ⟨W0,e0,hb0,k0⟩:=al1 w #[.int .i64 x.g.k,.int .i64 x.g.a,.int .i64 x.g.b,.string x.g.s,.int .i64 x.g.n,.slice A m c,.int .i64 x.dir,.string x.to,.slice B n q] 89;have HV:=Zh (zrH F d _ x.g W0 (zqX F d _ _ _ _ hX hb0) hz.g);obtain ⟨q0,q1,q2,q3,q4,q5,q6,q7,q8⟩:=zrQ k0;have K0:=Zh k0;have HB0:=Zh hb0;clear k0 hb0 hX hS hz h;generalize x.dir=dr at *;cases hv:xvP x.g
 ·rw [hv] at HV HT
  obtain rfl:t=false:=by rw [HT.out];rfl
  clear hv HT;go_enter Tryz.func37,Tryz.ntmps37
  go_wp2_with fail
  clear e0;clear q0 q1 q2 q3 q4 q5 q6 q7 q8;refine (HV.out ).mono ?_;rintro e w' ⟨rfl,hb'⟩
  replace K0:=Zh (K0.out.below hb' K0.out.lt);replace HB0:=Zh (zAA HB0.out hb');clear hb';obtain ⟨q0,q1,q2,q3,q4,q5,q6,q7,q8⟩:=zrQ K0.out;go_wp2_with fail
  go_ret;exact ⟨rfl,HB0.out⟩
 ·rw [hv,Bool.true_and] at HT
  rw [hv] at HV;clear hv;by_cases hd:dr=1\/dr=2
  ·have hT1:(decide (dr=1) || decide (dr=2))=true:=by simpa using hd
   rw [hT1,Bool.true_and] at HT;clear hT1;cases hv:zqn x.to
   ·rw [hv] at HN HT
    obtain rfl:t=false:=by rw [HT.out];rfl
    clear hv HT;rcases hd with rfl | rfl <;>
    ·go_enter Tryz.func37,Tryz.ntmps37
     go_wp2_with fail
     clear e0;clear q0 q1 q2 q3 q4 q5 q6 q7 q8;refine (HV.out ).mono ?_;rintro e w' ⟨rfl,hb'⟩
     replace K0:=Zh (K0.out.below hb' K0.out.lt);replace HB0:=Zh (zAA HB0.out hb');clear hb';obtain ⟨q0,q1,q2,q3,q4,q5,q6,q7,q8⟩:=zrQ K0.out;go_wp2_with fail
     clear q0 q1 q2 q3 q4 q5 q6 q7 q8;refine (HN.out _).mono ?_;rintro e w' ⟨rfl,hb'⟩
     replace K0:=Zh (K0.out.below hb' K0.out.lt);replace HB0:=Zh (zAA HB0.out hb');clear hb';obtain ⟨q0,q1,q2,q3,q4,q5,q6,q7,q8⟩:=zrQ K0.out;go_wp2_with fail
     go_ret;exact ⟨rfl,HB0.out⟩
   ·rw [hv,Bool.true_and] at HT
    rw [hv] at HN;clear hv;by_cases h4:n<=4
    ·rw [Yf h4,Bool.true_and] at HT
     rcases hd with rfl | rfl <;>
     ·go_enter Tryz.func37,Tryz.ntmps37
      go_wp2_with fail
      clear e0;clear q0 q1 q2 q3 q4 q5 q6 q7 q8;refine (HV.out ).mono ?_;rintro e w' ⟨rfl,hb'⟩
      replace K0:=Zh (K0.out.below hb' K0.out.lt);replace HB0:=Zh (zAA HB0.out hb');clear hb';obtain ⟨q0,q1,q2,q3,q4,q5,q6,q7,q8⟩:=zrQ K0.out;go_wp2_with fail
      clear q0 q1 q2 q3 q4 q5 q6 q7 q8;refine (HN.out _).mono ?_;rintro e w' ⟨rfl,hb'⟩
      replace K0:=Zh (K0.out.below hb' K0.out.lt);replace HB0:=Zh (zAA HB0.out hb');clear hb';obtain ⟨q0,q1,q2,q3,q4,q5,q6,q7,q8⟩:=zrQ K0.out;go_wp2_with fail
      have HW:=Zh HB0.out;generalize w' = W1 at *
      go_loopw [3] (fun i wr=>∃j:Nat,j<=n/\i=.int .i64 j/\Hid (∀m y,m<j->x.rs[m]? = some y->eqP y=true)/\Hid (Below W1.heap.size W1 wr)) (fun i _=>n - (intOf i).toNat)
      case atStart=>exact ⟨0,Nat.zero_le _,rfl,fun m y hm=>absurd hm (by omega),Yp _ _⟩
      case round=>
       obtain ⟨j,hj,rfl,HQ,HB⟩:=hrel;clear q0 q1 q2 q3 q4 q5 q6 q7 q8;have HWB:=Zh (zAA HW.out HB.out);replace K0:=Zh (K0.out.below HB.out K0.out.lt);replace HB0:=HWB;obtain ⟨q0,q1,q2,q3,q4,q5,q6,q7,q8⟩:=zrQ K0.out;by_cases hlt:j<n
       ·obtain ⟨b,off,y,vs,rfl,hbl,hy,hlk,hRy,hc⟩:=HS.out.get hlt
        obtain ⟨A5,n5,c5,rfl,hX5⟩:=hRy.open;have r0:=(HB0.out.cell (p:=⟨b,off+j*7,none⟩) hbl).trans (hc 0 _ rfl);have HCs:=Zh (fun (W:World) (hb:Below wr.heap.size wr W)=>(⟨((zAA HB0.out hb).cell (p:=⟨b,off+j*7+1,none⟩) hbl).trans (hc 1 _ rfl),((zAA HB0.out hb).cell (p:=⟨b,off+j*7+2,none⟩) hbl).trans (hc 2 _ rfl),((zAA HB0.out hb).cell (p:=⟨b,off+j*7+3,none⟩) hbl).trans (hc 3 _ rfl),((zAA HB0.out hb).cell (p:=⟨b,off+j*7+4,none⟩) hbl).trans (hc 4 _ rfl),((zAA HB0.out hb).cell (p:=⟨b,off+j*7+5,none⟩) hbl).trans (hc 5 _ rfl),((zAA HB0.out hb).cell (p:=⟨b,off+j*7+6,none⟩) hbl).trans (hc 6 _ rfl)⟩:W.cell? ⟨b,off+j*7+1,none⟩=some (.int .i64 y.e.k)/\W.cell? ⟨b,off+j*7+2,none⟩=some (.int .i64 y.e.a)/\W.cell? ⟨b,off+j*7+3,none⟩=some (.int .i64 y.e.b)/\W.cell? ⟨b,off+j*7+4,none⟩=some (.string y.e.s)/\W.cell? ⟨b,off+j*7+5,none⟩=some (.int .i64 y.e.n)/\W.cell? ⟨b,off+j*7+6,none⟩=some (.slice A5 n5 c5)));have hzy:=HZ.out y (Yk hy);have HN:=Zh (zqp y.s hzy.1 wr);have HR:=Zh (fun (W:World) (hb:Below wr.heap.size wr W)=>zrH F d _ y.e W (zqX F d _ _ _ _ hX5 (zAA HB0.out hb)) hzy.2);have HY:=Zh hy;have HE:Hid (eqP y=(zqn y.s && xvP y.e)):=rfl;clear hRy hc hlk hy hX5 hzy;cases hv:zqn y.s
        ·rw [hv] at HN
         obtain rfl:t=false:=by rw [HT.out,zrP HY.out (by rw [HE.out,hv];rfl)] <;> simp
         clear hv HT HE;go_wp2_with fail
         clear r0;clear q0 q1 q2 q3 q4 q5 q6 q7 q8;refine (HN.out ).mono ?_;rintro e w' ⟨rfl,hb'⟩
         replace K0:=Zh (K0.out.below hb' K0.out.lt);replace HB0:=Zh (zAA HB0.out hb');clear hb';obtain ⟨q0,q1,q2,q3,q4,q5,q6,q7,q8⟩:=zrQ K0.out;go_wp2_with fail
         go_ret;exact ⟨rfl,HB0.out⟩
        ·rw [hv] at HN
         rw [hv,Bool.true_and] at HE;clear hv;cases hv:xvP y.e
         ·rw [hv] at HR
          obtain rfl:t=false:=by rw [HT.out,zrP HY.out (by rw [HE.out,hv])] <;> simp
          clear hv HT HE;go_wp2_with fail
          clear r0;clear q0 q1 q2 q3 q4 q5 q6 q7 q8;refine HN.out.mono ?_;rintro e w' ⟨rfl,hb'⟩
          replace K0:=Zh (K0.out.below hb' K0.out.lt);replace HB0:=Zh (zAA HB0.out hb');obtain ⟨r1,r2,r3,r4,r5,r6⟩:=HCs.out w' hb';obtain ⟨q0,q1,q2,q3,q4,q5,q6,q7,q8⟩:=zrQ K0.out;have HR2:=Zh (HR.out w' hb');clear hb';go_wp2_with fail
          clear r1 r2 r3 r4 r5 r6 q0 q1 q2 q3 q4 q5 q6 q7 q8;refine HR2.out.mono ?_;rintro e w'' ⟨rfl,hb'⟩
          replace K0:=Zh (K0.out.below hb' K0.out.lt);replace HB0:=Zh (zAA HB0.out hb');clear hb';obtain ⟨q0,q1,q2,q3,q4,q5,q6,q7,q8⟩:=zrQ K0.out;go_wp2_with fail
          go_ret;exact ⟨rfl,HB0.out⟩
         ·rw [hv] at HR
          have HQ2:=Zh (zrJ HY.out (by rw [HE.out,hv]) HQ.out);clear hv HE;have HBr:=Zh HB.out;go_wp2_with fail
          clear r0;clear q0 q1 q2 q3 q4 q5 q6 q7 q8;refine HN.out.mono ?_;rintro e w' ⟨rfl,hb'⟩
          replace K0:=Zh (K0.out.below hb' K0.out.lt);replace HB0:=Zh (zAA HB0.out hb');replace HBr:=Zh (zAA HBr.out hb');obtain ⟨r1,r2,r3,r4,r5,r6⟩:=HCs.out w' hb';obtain ⟨q0,q1,q2,q3,q4,q5,q6,q7,q8⟩:=zrQ K0.out;have HR2:=Zh (HR.out w' hb');clear hb';go_wp2_with fail
          clear r1 r2 r3 r4 r5 r6 q0 q1 q2 q3 q4 q5 q6 q7 q8;refine HR2.out.mono ?_;rintro e w'' ⟨rfl,hb'⟩
          replace K0:=Zh (K0.out.below hb' K0.out.lt);replace HB0:=Zh (zAA HB0.out hb');replace HBr:=Zh (zAA HBr.out hb');clear hb';obtain ⟨q0,q1,q2,q3,q4,q5,q6,q7,q8⟩:=zrQ K0.out;go_wp2_with fail
          go_roundw
          case rel=>exact ⟨j+1,by omega,by go_num,HQ2.out,HBr.out⟩
          case measure=>simp [intOf];omega
       ·have HA:=Zh (zrU (f:=eqP) (xs:=x.rs) fun m y hm hy=>HQ.out m y (by have:=HS.out.len;omega) hy)
        obtain rfl:t=true:=by rw [HT.out,HA.out]
        go_wp2_with fail
        go_ret;exact ⟨rfl,HB0.out⟩
    ·rw [Ye h4] at HT
     obtain rfl:t=false:=by rw [HT.out];rfl
     clear HT;rcases hd with rfl | rfl <;>
     ·go_enter Tryz.func37,Tryz.ntmps37
      go_wp2_with fail
      clear e0;clear q0 q1 q2 q3 q4 q5 q6 q7 q8;refine (HV.out ).mono ?_;rintro e w' ⟨rfl,hb'⟩
      replace K0:=Zh (K0.out.below hb' K0.out.lt);replace HB0:=Zh (zAA HB0.out hb');clear hb';obtain ⟨q0,q1,q2,q3,q4,q5,q6,q7,q8⟩:=zrQ K0.out;go_wp2_with fail
      clear q0 q1 q2 q3 q4 q5 q6 q7 q8;refine (HN.out _).mono ?_;rintro e w' ⟨rfl,hb'⟩
      replace K0:=Zh (K0.out.below hb' K0.out.lt);replace HB0:=Zh (zAA HB0.out hb');clear hb';obtain ⟨q0,q1,q2,q3,q4,q5,q6,q7,q8⟩:=zrQ K0.out;go_wp2_with fail
      go_ret;exact ⟨rfl,HB0.out⟩
  ·have hT1:(decide (dr=1) || decide (dr=2))=false:=by simpa using hd
   obtain rfl:t=false:=by rw [HT.out,hT1];rfl
   have e1:(dr == 1)=false:=by simpa using fun h=>hd (.inl h)
   have e2:(dr == 2)=false:=by simpa using fun h=>hd (.inr h)
   have e1n:(dr != 1)=true:=by simp [bne,e1]
   have e2n:(dr != 2)=true:=by simp [bne,e2]
   clear HT hT1 hd;go_enter Tryz.func37,Tryz.ntmps37
   go_wp2_with fail
   clear e0;clear q0 q1 q2 q3 q4 q5 q6 q7 q8;refine (HV.out ).mono ?_;rintro e w' ⟨rfl,hb'⟩
   replace K0:=Zh (K0.out.below hb' K0.out.lt);replace HB0:=Zh (zAA HB0.out hb');clear hb';obtain ⟨q0,q1,q2,q3,q4,q5,q6,q7,q8⟩:=zrQ K0.out;go_wp2_with fail
   go_ret;exact ⟨rfl,HB0.out⟩
theorem zs7 (F:Nat->Prop) (d:Nat) (us:List Value) (x:Md) (w:World) (h:RMd F d w us x) (hz:SzM x):Calls Tryz.prog 15 #[.agg us.toArray] w (zBW (mdP x) w):=by
 obtain ⟨A,n,c,B,m,q,rfl,hS1,hS2⟩:=h;have hn:=hS1.cap;have hm:=hS1.max;have hn2:=hS2.cap;have hm2:=hS2.max;have HS:=Zh hS1;have HS2:=Zh hS2;have HZ:=Zh hz.flow;have HZ2:=Zh hz.edges;obtain ⟨t,HT⟩:∃t,Hid (t=mdP x):=⟨_,rfl⟩;rw [<- HT.out];unfold mdP at HT;rw [hS1.len,hS2.len] at HT;have HN:=Zh (zqp x.s hz.s);obtain ⟨W0,e0,hb0,k0⟩:=al1 w #[.string x.s,.slice A n c,.slice B m q] 60;obtain ⟨q0,q1,q2⟩:=zrc k0;have K0:=Zh k0;have HB0:=Zh hb0;clear k0 hb0 hS1 hS2 hz;cases hv:zqn x.s
 ·rw [hv] at HN HT
  obtain rfl:t=false:=by rw [HT.out];rfl
  clear hv HT;go_enter Tryz.func15,Tryz.ntmps15
  go_wp2_with fail
  clear e0;clear q0 q1 q2;refine (HN.out _).mono ?_;rintro e w' ⟨rfl,hb'⟩
  replace K0:=Zh (K0.out.below hb' K0.out.lt);replace HB0:=Zh (zAA HB0.out hb');clear hb';obtain ⟨q0,q1,q2⟩:=zrc K0.out;go_wp2_with fail
  go_ret;exact ⟨rfl,HB0.out⟩
 ·rw [hv,Bool.true_and] at HT
  rw [hv] at HN;clear hv;by_cases h4:n<=4
  ·rw [Yf h4,Bool.true_and] at HT
   by_cases h5:m<=4
   ·rw [Yf h5,Bool.true_and] at HT
    go_enter Tryz.func15,Tryz.ntmps15
    go_wp2_with fail
    clear e0;clear q0 q1 q2;refine (HN.out _).mono ?_;rintro e w' ⟨rfl,hb'⟩
    replace K0:=Zh (K0.out.below hb' K0.out.lt);replace HB0:=Zh (zAA HB0.out hb');clear hb';obtain ⟨q0,q1,q2⟩:=zrc K0.out;go_wp2_with fail
    have HW:=Zh HB0.out;generalize w' = W1 at *
    go_loopw [3] (fun i wr=>∃j:Nat,j<=n/\i=.int .i64 j/\Hid (∀m y,m<j->x.flow[m]? = some y->eqP y=true)/\Hid (Below W1.heap.size W1 wr)) (fun i _=>n - (intOf i).toNat)
    case atStart=>exact ⟨0,Nat.zero_le _,rfl,fun m y hm=>absurd hm (by omega),Yp _ _⟩
    case round=>
     obtain ⟨j,hj,rfl,HQ,HB⟩:=hrel;clear q0 q1 q2;have HWB:=Zh (zAA HW.out HB.out);replace K0:=Zh (K0.out.below HB.out K0.out.lt);replace HB0:=HWB;obtain ⟨q0,q1,q2⟩:=zrc K0.out;by_cases hlt:j<n
     ·obtain ⟨b,off,y,vs,rfl,hbl,hy,hlk,hRy,hc⟩:=HS.out.get hlt
      obtain ⟨A5,n5,c5,rfl,hX5⟩:=hRy.open;have r0:=(HB0.out.cell (p:=⟨b,off+j*7,none⟩) hbl).trans (hc 0 _ rfl);have HCs:=Zh (fun (W:World) (hb:Below wr.heap.size wr W)=>(⟨((zAA HB0.out hb).cell (p:=⟨b,off+j*7+1,none⟩) hbl).trans (hc 1 _ rfl),((zAA HB0.out hb).cell (p:=⟨b,off+j*7+2,none⟩) hbl).trans (hc 2 _ rfl),((zAA HB0.out hb).cell (p:=⟨b,off+j*7+3,none⟩) hbl).trans (hc 3 _ rfl),((zAA HB0.out hb).cell (p:=⟨b,off+j*7+4,none⟩) hbl).trans (hc 4 _ rfl),((zAA HB0.out hb).cell (p:=⟨b,off+j*7+5,none⟩) hbl).trans (hc 5 _ rfl),((zAA HB0.out hb).cell (p:=⟨b,off+j*7+6,none⟩) hbl).trans (hc 6 _ rfl)⟩:W.cell? ⟨b,off+j*7+1,none⟩=some (.int .i64 y.e.k)/\W.cell? ⟨b,off+j*7+2,none⟩=some (.int .i64 y.e.a)/\W.cell? ⟨b,off+j*7+3,none⟩=some (.int .i64 y.e.b)/\W.cell? ⟨b,off+j*7+4,none⟩=some (.string y.e.s)/\W.cell? ⟨b,off+j*7+5,none⟩=some (.int .i64 y.e.n)/\W.cell? ⟨b,off+j*7+6,none⟩=some (.slice A5 n5 c5)));have hzy:=HZ.out y (Yk hy);have HN:=Zh (zqp y.s hzy.1 wr);have HR:=Zh (fun (W:World) (hb:Below wr.heap.size wr W)=>zrH F d _ y.e W (zqX F d _ _ _ _ hX5 (zAA HB0.out hb)) hzy.2);have HY:=Zh hy;have HE:Hid (eqP y=(zqn y.s && xvP y.e)):=rfl;clear hRy hc hlk hy hX5 hzy;cases hv:zqn y.s
      ·rw [hv] at HN
       obtain rfl:t=false:=by rw [HT.out,zrP HY.out (by rw [HE.out,hv];rfl)] <;> simp
       clear hv HT HE;go_wp2_with fail
       clear r0;clear q0 q1 q2;refine (HN.out ).mono ?_;rintro e w' ⟨rfl,hb'⟩
       replace K0:=Zh (K0.out.below hb' K0.out.lt);replace HB0:=Zh (zAA HB0.out hb');clear hb';obtain ⟨q0,q1,q2⟩:=zrc K0.out;go_wp2_with fail
       go_ret;exact ⟨rfl,HB0.out⟩
      ·rw [hv] at HN
       rw [hv,Bool.true_and] at HE;clear hv;cases hv:xvP y.e
       ·rw [hv] at HR
        obtain rfl:t=false:=by rw [HT.out,zrP HY.out (by rw [HE.out,hv])] <;> simp
        clear hv HT HE;go_wp2_with fail
        clear r0;clear q0 q1 q2;refine HN.out.mono ?_;rintro e w' ⟨rfl,hb'⟩
        replace K0:=Zh (K0.out.below hb' K0.out.lt);replace HB0:=Zh (zAA HB0.out hb');obtain ⟨r1,r2,r3,r4,r5,r6⟩:=HCs.out w' hb';obtain ⟨q0,q1,q2⟩:=zrc K0.out;have HR2:=Zh (HR.out w' hb');clear hb';go_wp2_with fail
        clear r1 r2 r3 r4 r5 r6 q0 q1 q2;refine HR2.out.mono ?_;rintro e w'' ⟨rfl,hb'⟩
        replace K0:=Zh (K0.out.below hb' K0.out.lt);replace HB0:=Zh (zAA HB0.out hb');clear hb';obtain ⟨q0,q1,q2⟩:=zrc K0.out;go_wp2_with fail
        go_ret;exact ⟨rfl,HB0.out⟩
       ·rw [hv] at HR
        have HQ2:=Zh (zrJ HY.out (by rw [HE.out,hv]) HQ.out);clear hv HE;have HBr:=Zh HB.out;go_wp2_with fail
        clear r0;clear q0 q1 q2;refine HN.out.mono ?_;rintro e w' ⟨rfl,hb'⟩
        replace K0:=Zh (K0.out.below hb' K0.out.lt);replace HB0:=Zh (zAA HB0.out hb');replace HBr:=Zh (zAA HBr.out hb');obtain ⟨r1,r2,r3,r4,r5,r6⟩:=HCs.out w' hb';obtain ⟨q0,q1,q2⟩:=zrc K0.out;have HR2:=Zh (HR.out w' hb');clear hb';go_wp2_with fail
        clear r1 r2 r3 r4 r5 r6 q0 q1 q2;refine HR2.out.mono ?_;rintro e w'' ⟨rfl,hb'⟩
        replace K0:=Zh (K0.out.below hb' K0.out.lt);replace HB0:=Zh (zAA HB0.out hb');replace HBr:=Zh (zAA HBr.out hb');clear hb';obtain ⟨q0,q1,q2⟩:=zrc K0.out;go_wp2_with fail
        go_roundw
        case rel=>exact ⟨j+1,by omega,by go_num,HQ2.out,HBr.out⟩
        case measure=>simp [intOf];omega
     ·have HA:=Zh (zrU (f:=eqP) (xs:=x.flow) fun m y hm hy=>HQ.out m y (by have:=HS.out.len;omega) hy)
      rw [HA.out,Bool.true_and] at HT;clear HQ;go_wp2_with fail
      have HW2:=Zh HB0.out;generalize wr=W2 at *
      go_loopw [4] (fun i wr=>∃j:Nat,j<=m/\i=.int .i64 j/\Hid (∀m y,m<j->x.edges[m]? = some y->edP y=true)/\Hid (Below W2.heap.size W2 wr)) (fun i _=>m - (intOf i).toNat)
      case atStart=>exact ⟨0,Nat.zero_le _,rfl,fun m y hm=>absurd hm (by omega),Yp _ _⟩
      case round=>
       obtain ⟨j,hj,rfl,HQ,HB2⟩:=hrel;clear q0 q1 q2;replace HB0:=Zh (zAA HW2.out HB2.out);replace K0:=Zh (K0.out.below HB2.out K0.out.lt);obtain ⟨q0,q1,q2⟩:=zrc K0.out;by_cases hlt:j<m
       ·obtain ⟨b,off,y,vs,rfl,hbl,hy,hlk,hRy,hc⟩:=HS2.out.get hlt
        have HR:=Zh (zsz F d vs y wr (zqw F d _ _ _ _ hRy HB0.out) (HZ2.out y (Yk hy)));obtain ⟨A5,n5,c5,B5,m5,c6,rfl,-,-⟩:=hRy.open;have r0:=(HB0.out.cell (p:=⟨b,off+j*9,none⟩) hbl).trans (hc 0 _ rfl);have r1:=(HB0.out.cell (p:=⟨b,off+j*9+1,none⟩) hbl).trans (hc 1 _ rfl);have r2:=(HB0.out.cell (p:=⟨b,off+j*9+2,none⟩) hbl).trans (hc 2 _ rfl);have r3:=(HB0.out.cell (p:=⟨b,off+j*9+3,none⟩) hbl).trans (hc 3 _ rfl);have r4:=(HB0.out.cell (p:=⟨b,off+j*9+4,none⟩) hbl).trans (hc 4 _ rfl);have r5:=(HB0.out.cell (p:=⟨b,off+j*9+5,none⟩) hbl).trans (hc 5 _ rfl);have r6:=(HB0.out.cell (p:=⟨b,off+j*9+6,none⟩) hbl).trans (hc 6 _ rfl);have r7:=(HB0.out.cell (p:=⟨b,off+j*9+7,none⟩) hbl).trans (hc 7 _ rfl);have r8:=(HB0.out.cell (p:=⟨b,off+j*9+8,none⟩) hbl).trans (hc 8 _ rfl);have HY:=Zh hy;clear hRy hc hlk hy;cases hv:edP y
        ·rw [hv] at HR
         obtain rfl:t=false:=by rw [HT.out,zrP HY.out hv]
         clear hv HT;go_wp2_with fail
         clear r0 r1 r2 r3 r4 r5 r6 r7 r8;clear q0 q1 q2;refine (HR.out ).mono ?_;rintro e w' ⟨rfl,hb'⟩
         replace K0:=Zh (K0.out.below hb' K0.out.lt);replace HB0:=Zh (zAA HB0.out hb');clear hb';obtain ⟨q0,q1,q2⟩:=zrc K0.out;go_wp2_with fail
         go_ret;exact ⟨rfl,HB0.out⟩
        ·rw [hv] at HR
         have HQ2:=Zh (zrJ HY.out hv HQ.out);clear hv;go_wp2_with fail
         clear r0 r1 r2 r3 r4 r5 r6 r7 r8 q0 q1 q2;refine HR.out.mono ?_;rintro e w3 ⟨rfl,hb'⟩
         have HB3:=Zh (zAA HB2.out hb');clear hb';go_wp2_with fail
         go_roundw
         case rel=>exact ⟨j+1,by omega,by go_num,HQ2.out,HB3.out⟩
         case measure=>simp [intOf];omega
       ·obtain rfl:t=true:=by rw [HT.out];exact zrU fun m y hm hy=>HQ.out m y (by have:=HS2.out.len;omega) hy
        go_wp2_with fail
        go_ret;exact ⟨rfl,HB0.out⟩
   ·rw [Ye h5] at HT
    obtain rfl:t=false:=by rw [HT.out];rfl
    clear HT;go_enter Tryz.func15,Tryz.ntmps15
    go_wp2_with fail
    clear e0;clear q0 q1 q2;refine (HN.out _).mono ?_;rintro e w' ⟨rfl,hb'⟩
    replace K0:=Zh (K0.out.below hb' K0.out.lt);replace HB0:=Zh (zAA HB0.out hb');clear hb';obtain ⟨q0,q1,q2⟩:=zrc K0.out;go_wp2_with fail
    go_ret;exact ⟨rfl,HB0.out⟩
  ·rw [Ye h4] at HT
   obtain rfl:t=false:=by rw [HT.out];rfl
   clear HT;go_enter Tryz.func15,Tryz.ntmps15
   go_wp2_with fail
   clear e0;clear q0 q1 q2;refine (HN.out _).mono ?_;rintro e w' ⟨rfl,hb'⟩
   replace K0:=Zh (K0.out.below hb' K0.out.lt);replace HB0:=Zh (zAA HB0.out hb');clear hb';obtain ⟨q0,q1,q2⟩:=zrc K0.out;go_wp2_with fail
   go_ret;exact ⟨rfl,HB0.out⟩
theorem zrK (F:Nat->Prop) (d:Nat) (us:List Value) (x:Pb) (w:World) (h:RPb F d w us x) (hz:SzP x):Calls Tryz.prog 5 #[.agg us.toArray] w (zBW (pbP x) w):=by
 obtain ⟨A,n,c,B,m,q,C,i,p,rfl,hS1,hS2,hS3,-⟩:=h;have hn:=hS1.cap;have hm:=hS1.max;have hn2:=hS2.cap;have hm2:=hS2.max;have hn3:=hS3.cap;have hm3:=hS3.max;have HS3:=Zh hS3;have HZ3:=Zh hz.modes;have HD1:=Zh (fun W (hb:Below w.heap.size w W)=>zrW A n c x.states W (hS1.next zqZ hb) hz.states);have HD2:=Zh (fun W (hb:Below w.heap.size w W)=>zrW B m q x.params W (hS2.next zqZ hb) hz.params);have HV:=Zh (zq8 x.n x.d);obtain ⟨t,HT⟩:∃t,Hid (t=pbP x):=⟨_,rfl⟩;rw [<- HT.out];unfold pbP at HT;rw [hS1.len,hS2.len,hS3.len] at HT;obtain ⟨W0,e0,hb0,k0⟩:=al1 w #[.slice A n c,.slice B m q,.slice C i p,.int .i64 x.n,.int .i64 x.d] 27;obtain ⟨q0,q1,q2,q3,q4⟩:=zq2 k0;have K0:=Zh k0;have HB0:=Zh hb0;clear k0 hb0 hS1 hS2 hS3 hz;by_cases g0:1<=n
 ·rw [Yf g0,Bool.true_and] at HT
  by_cases g1:n<=4
  ·rw [Yf g1,Bool.true_and] at HT
   by_cases g2:m<=4
   ·rw [Yf g2,Bool.true_and] at HT
    by_cases g3:1<=i
    ·rw [Yf g3,Bool.true_and] at HT
     by_cases g4:i<=8
     ·rw [Yf g4,Bool.true_and] at HT
      go_enter Tryz.func5,Tryz.ntmps5
      go_wp2_with fail
      clear e0;have HW:=Zh HB0.out;generalize W0=W1 at *
      go_loopw [3] (fun v wr=>∃j:Nat,j<=i/\v=.int .i64 j/\Hid (∀m y,m<j->x.modes[m]? = some y->mdP y=true)/\Hid (Below W1.heap.size W1 wr)) (fun v _=>i - (intOf v).toNat)
      case atStart=>exact ⟨0,Nat.zero_le _,rfl,fun m y hm=>absurd hm (by omega),Yp _ _⟩
      case round=>
       obtain ⟨j,hj,rfl,HQ,HB⟩:=hrel;clear q0 q1 q2 q3 q4;replace HB0:=Zh (zAA HW.out HB.out);replace K0:=Zh (K0.out.below HB.out K0.out.lt);obtain ⟨q0,q1,q2,q3,q4⟩:=zq2 K0.out;by_cases hlt:j<i
       ·obtain ⟨b,off,y,vs,rfl,hbl,hy,hlk,hRy,hc⟩:=HS3.out.get hlt
        have HR:=Zh (zs7 F d vs y wr (zqr F d _ _ _ _ hRy HB0.out) (HZ3.out y (Yk hy)));obtain ⟨A5,n5,c5,B5,m5,c6,rfl,-,-⟩:=hRy;have r0:=(HB0.out.cell (p:=⟨b,off+j*3,none⟩) hbl).trans (hc 0 _ rfl);have r1:=(HB0.out.cell (p:=⟨b,off+j*3+1,none⟩) hbl).trans (hc 1 _ rfl);have r2:=(HB0.out.cell (p:=⟨b,off+j*3+2,none⟩) hbl).trans (hc 2 _ rfl);have HY:=Zh hy;clear hc hlk hy;cases hv:mdP y
        ·rw [hv] at HR
         obtain rfl:t=false:=by rw [HT.out,zrP HY.out hv];rfl
         clear hv HT;go_wp2_with fail
         clear r0 r1 r2;clear q0 q1 q2 q3 q4;refine (HR.out ).mono ?_;rintro e w' ⟨rfl,hb'⟩
         replace K0:=Zh (K0.out.below hb' K0.out.lt);replace HB0:=Zh (zAA HB0.out hb');clear hb';obtain ⟨q0,q1,q2,q3,q4⟩:=zq2 K0.out;go_wp2_with fail
         go_ret;exact ⟨rfl,HB0.out⟩
        ·rw [hv] at HR
         have HQ2:=Zh (zrJ HY.out hv HQ.out);clear hv;go_wp2_with fail
         clear r0 r1 r2 q0 q1 q2 q3 q4;refine HR.out.mono ?_;rintro e w3 ⟨rfl,hb'⟩
         have HB3:=Zh (zAA HB.out hb');clear hb';go_wp2_with fail
         go_roundw
         case rel=>exact ⟨j+1,by omega,by go_num,HQ2.out,HB3.out⟩
         case measure=>simp [intOf];omega
       ·have HA:=Zh (zrU (f:=mdP) (xs:=x.modes) fun m y hm hy=>HQ.out m y (by have:=HS3.out.len;omega) hy)
        rw [HA.out,Bool.true_and] at HT;clear HQ HA;cases hv1:x.states.all dcP
        ·rw [hv1] at HD1 HT
         obtain rfl:t=false:=by rw [HT.out];rfl
         clear hv1 HT;go_wp2_with fail
         clear q0 q1 q2 q3 q4;refine (HD1.out _ HB0.out).mono ?_;rintro e w' ⟨rfl,hb'⟩
         replace K0:=Zh (K0.out.below hb' K0.out.lt);replace HB0:=Zh (zAA HB0.out hb');clear hb';obtain ⟨q0,q1,q2,q3,q4⟩:=zq2 K0.out;go_wp2_with fail
         go_ret;exact ⟨rfl,HB0.out⟩
        ·rw [hv1,Bool.true_and] at HT
         rw [hv1] at HD1;clear hv1;cases hv2:x.params.all dcP
         ·rw [hv2] at HD2 HT
          obtain rfl:t=false:=by rw [HT.out];rfl
          clear hv2 HT;go_wp2_with fail
          clear q0 q1 q2 q3 q4;refine (HD1.out _ HB0.out).mono ?_;rintro e w' ⟨rfl,hb'⟩
          replace K0:=Zh (K0.out.below hb' K0.out.lt);replace HB0:=Zh (zAA HB0.out hb');clear hb';obtain ⟨q0,q1,q2,q3,q4⟩:=zq2 K0.out;go_wp2_with fail
          clear q0 q1 q2 q3 q4;refine (HD2.out _ HB0.out).mono ?_;rintro e w' ⟨rfl,hb'⟩
          replace K0:=Zh (K0.out.below hb' K0.out.lt);replace HB0:=Zh (zAA HB0.out hb');clear hb';obtain ⟨q0,q1,q2,q3,q4⟩:=zq2 K0.out;go_wp2_with fail
          go_ret;exact ⟨rfl,HB0.out⟩
         ·rw [hv2,Bool.true_and] at HT
          rw [hv2] at HD2;rw [<- HT.out] at HV;clear hv2 HT;go_wp2_with fail
          clear q0 q1 q2 q3 q4;refine (HD1.out _ HB0.out).mono ?_;rintro e w' ⟨rfl,hb'⟩
          replace K0:=Zh (K0.out.below hb' K0.out.lt);replace HB0:=Zh (zAA HB0.out hb');clear hb';obtain ⟨q0,q1,q2,q3,q4⟩:=zq2 K0.out;go_wp2_with fail
          clear q0 q1 q2 q3 q4;refine (HD2.out _ HB0.out).mono ?_;rintro e w' ⟨rfl,hb'⟩
          replace K0:=Zh (K0.out.below hb' K0.out.lt);replace HB0:=Zh (zAA HB0.out hb');clear hb';obtain ⟨q0,q1,q2,q3,q4⟩:=zq2 K0.out;go_wp2_with fail
          clear q0 q1 q2 q3 q4;refine (HV.out _).mono ?_;rintro e w' ⟨rfl,hb'⟩
          replace K0:=Zh (K0.out.below hb' K0.out.lt);replace HB0:=Zh (zAA HB0.out hb');clear hb';obtain ⟨q0,q1,q2,q3,q4⟩:=zq2 K0.out;go_wp2_with fail
          go_ret;exact ⟨rfl,HB0.out⟩
     ·rw [Ye g4] at HT
      obtain rfl:t=false:=by rw [HT.out];rfl
      clear HT;go_enter Tryz.func5,Tryz.ntmps5
      go_wp2_with fail
      clear e0;go_ret;exact ⟨rfl,HB0.out⟩
    ·rw [Ye g3] at HT
     obtain rfl:t=false:=by rw [HT.out];rfl
     clear HT;go_enter Tryz.func5,Tryz.ntmps5
     go_wp2_with fail
     clear e0;go_ret;exact ⟨rfl,HB0.out⟩
   ·rw [Ye g2] at HT
    obtain rfl:t=false:=by rw [HT.out];rfl
    clear HT;go_enter Tryz.func5,Tryz.ntmps5
    go_wp2_with fail
    clear e0;go_ret;exact ⟨rfl,HB0.out⟩
  ·rw [Ye g1] at HT
   obtain rfl:t=false:=by rw [HT.out];rfl
   clear HT;go_enter Tryz.func5,Tryz.ntmps5
   go_wp2_with fail
   clear e0;go_ret;exact ⟨rfl,HB0.out⟩
 ·rw [Ye g0] at HT
  obtain rfl:t=false:=by rw [HT.out];rfl
  clear HT;go_enter Tryz.func5,Tryz.ntmps5
  go_wp2_with fail
  clear e0;go_ret;exact ⟨rfl,HB0.out⟩
end Go.Proofs.YtngjhigieajkmaaGreatDoor
end
