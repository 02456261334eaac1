/- Bundle 17: what the law's walk stands on: Y13, Y14, U21, U25, Q31, Q32. -/
import Derived.Deep.RegionHeld
import Derived.Deep.CutRange
import Derived.Defers
import Derived.Recover
import Derived.Test.YtngjhigieajkmaaGreatDoorH12
import Derived.Test.YtngjhigieajkmaaGreatDoorH14
import Derived.Test.YtngjhigieajkmaaGreatDoorH15
import Derived.Test.YtngjhigieajkmaaGreatDoorH16
set_option maxRecDepth 100000
set_option maxHeartbeats 20000000
set_option linter.all false
noncomputable section
namespace Go.Proofs.YtngjhigieajkmaaGreatDoor
open Go.RowKit Pl
theorem zsh:∀xs:List ByteArray,(xs.map fun x=>[Value.string x]).flatten=xs.map Value.string
 | []=>rfl
 | x::xs=>by rw [List.map_cons,List.flatten_cons,zsh xs];rfl
theorem zqq.of_k {w:World}{base:Nat}{v:Value}{xs:List ByteArray}(h:zKf 9 1 w base v (xs.map fun x=>[.string x])):zqq w base v xs:=by
 have:=h.own;rw [zsh,Xe] at this;exact this
theorem zqq.nil0 {w:World}{base:Nat}{A:Option Addr}{n c:Nat}{xs:List ByteArray}(h:zqq w base (.slice A n c) xs):A=none->c=0:=by
 rintro rfl
 rcases h.2 with ⟨e,_⟩ | ⟨g,cap,cur,e,_⟩
 ·injection e
 ·injection e with e;cases e
theorem zsI {P:Program}{α:Type}{R:World->List Value->α->Prop}{w:World}{ops:Array Oper}{o:Oper}{a:Act}{K:Act->World->Prop}{Q:Exit->Act->World->Prop}{E0:Prop}(hgd:o.guard=none) (s x:Operand) (t:TypeId)
  (ho:o.op=.call { callee:=.builtin .append,args:=#[s,x],argTypes:=#[t,t] })
  (e:TypeId) (k bytes:Nat) (z:Value) (hinfo:(P.info? e).map (fun i=>(i.zero,i.size,i.bytes))=some (some z,k,bytes)) (hz:z.cells.size=k) (hk:0<k) (hby:bytes<=1000) (ht:P.underlying t=some (.slice e))
  (base:Nat) (v:Value) (fs:List (List Value)) (hs:a.eval s=v) (hown:zKf e k w base v fs) (A:Option Addr) (m c:Nat) (ys:List α) (h1:∀W vs x,R W vs x->∀u∈vs,u.oneCell' = true)
  (hx:a.eval x=.slice A m c) (hS:Sl k R w A m c ys) (hA:A=none->c=0) (hlen:fs.length+m<=1000000) (hbase:base<=w.heap.size)
  (h:∀v' w' gs,zKf e k w' base v' (fs++gs)->gs.length=m->(∀ (j:Nat) (g:List Value) (y:α),gs[j]? = some g->ys[j]? = some y->R w g y)->Below base w w'->K (a.put o.dst v') w') :
  if Region.wanted o (yielded ops a.tmps)=true then Oper.wp P o a w K Q else E0:=by
 obtain ⟨i,hi,hz',hsize,hb'⟩:=info_parts hinfo;have hw:Region.wanted o (yielded ops a.tmps)=true:=by simp [Region.wanted,hgd]
 rw [if_pos hw];cases A with
 | none=>
  have hc:=hA rfl;subst hc;have hm:m=0:=by have:=hS.cap;omega
  subst hm;have hr:=run_append_owned_none (P:=P) (w:=w) base t o.type e i k ht hi v fs.length fs.flatten hown.own;unfold Oper.wp execOp;simp only [ho,resolve,invoke,builtin,Sem.run_bind,Sem.run_pure,Result.andThen_ok,List.map_toArray,List.map_cons,List.map_nil,hs,hx,hr];exact h v w [] (by rw [List.append_nil];exact hown) rfl (fun j g y hg=>by simp at hg) (Yp _ _)
 | some ad=>
  obtain ⟨gs,g1,g2,g3,g4⟩:=zsH hk hS;have hl:gs.flatten.length=m*k:=by rw [zGp g2,g1]
  obtain ⟨v',w',hr,h2,h3,_,h5⟩:=run_append_own_at (P:=P) w base t o.type e i z k bytes ht hi hz' hsize hb' hz hk v fs.length fs.flatten hown.own ad m c gs.flatten hl (g4 ad rfl) (fun u hu=>by
   obtain ⟨g,hg,hu⟩:=List.mem_flatten.1 hu;obtain ⟨j,hj⟩:=List.mem_iff_getElem?.1 hg;have hjl:=(Yb.1 hj).1;have hyl:j<ys.length:=by rw [hS.len,<- g1];exact hjl
   exact h1 _ _ _ (g3 j g _ hj (Yo hyl)) u hu) (by simp only [maxLen];omega) (Yq (Nat.mul_le_mul (show fs.length+m<=1000000 by omega) hby) (by omega)) hbase
  unfold Oper.wp execOp;simp only [ho,resolve,invoke,builtin,Sem.run_bind,Sem.run_pure,Result.andThen_ok,List.map_toArray,List.map_cons,List.map_nil,hs,hx,hr];refine h v' w' gs ⟨?_,?_⟩ g1 g3 ((Yp _ _).grown h3 hbase (fun k hk=>(hown.lt k hk).1))
  ·rw [Yu,List.flatten_append,g1];exact h2
  ·intro f' hf
   rcases Yt.1 hf with hf | hf
   ·exact hown.len f' hf
   ·exact g2 f' hf
theorem zsV (F:Nat->Prop) (d:Nat) (us:List Value) (x:Pb) (w:World) (h:RPb F d w us x) (h4:x.states.length<=4) (h5:x.params.length<=4) :
  Calls Tryz.prog 42 #[.agg us.toArray] w fun e w'=>∃A n c B m q,e=.returned (.tuple #[.slice A n c,.slice B m q])/\Sl 1 zql w' A n c (x.states.map Dc.s)/\Sl 1 zql w' B m q x.names/\Below w.heap.size w w':=by
 obtain ⟨A,n,c,B,m,q,C,i,p,rfl,hS1,hS2,hS3,-⟩:=h;obtain ⟨W2,e0,hb0,kb⟩:=al1 w #[.slice A n c,.slice B m q,.slice C i p,.int .i64 x.n,.int .i64 x.d] 27;obtain ⟨q0,q1,q2,q3,q4⟩:=zq2 kb;have HS1:=Zh hS1;have HS2:=Zh hS2;have hn4:n<=4:=by rw [<- hS1.len];exact h4
 have hm4:m<=4:=by rw [<- hS2.len];exact h5
 have KB2:=Zh kb;have HB2:=Zh hb0;have hsz2:=hb0.size;clear hS1 hS2 hS3 h4 h5 kb hb0;go_enter Tryz.func42,Tryz.ntmps42
 go_wp2_with fail
 clear e0 q0 q1 q2 q3 q4
 go_loopw [4,6] (fun vo vi wr=>∃j:Nat,j<=n/\vi=.int .i64 j/\Hid (zqq wr W2.heap.size vo ((x.states.take j).map Dc.s))/\Hid (Below W2.heap.size W2 wr)) (fun _ vi _=>n - (intOf vi).toNat)
 case atStart=>exact ⟨0,Nat.zero_le _,rfl,by simpa [Hid] using (zqq.nil W2 W2.heap.size),Yp _ _⟩
 case round=>
  obtain ⟨j,hj,rfl,HO,HB⟩:=hrel;have hsz:=HB.out.size;have hBw:=zAA HB2.out HB.out;have HKB:=Zh (KB2.out.below HB.out (KB2.out).lt);have hlj:((x.states.take j).map Dc.s).length=j:=by have l2:=HS1.out.len;simp only [Yu,Xe,Yr];omega
  obtain ⟨Av,cv,hv,hSv⟩:=HO.out.sl;rw [hlj] at hv hSv;subst hv;have z0:=HKB.out.cell 0;by_cases hlt:j<n
  ·obtain ⟨b,off,y,vs,rfl,hbl,hy,hlk,hRy,hc⟩:=HS1.out.get hlt
   have hRr:vs=zqb y:=hRy;subst hRr;have z1:=(hBw.cell (p:=⟨b,off+j*5,none⟩) hbl).trans (hc 0 _ rfl);obtain ⟨W4,e4,hb4,k4⟩:=al1 wr #[.string y.s] 9;have hcn:=k4.cell 0;have HO4:=Zh (HO.out.below hb4);have HB4:=Zh (zAA HB.out hb4);have hs4:=HB4.out.size;have HY:=Zh hy;have hcap:=HS1.out.cap;have hmax:=HS1.out.max;clear hb4 k4 hc hlk hy hSv
   go_wp2_with (at_builtin;go_loud (refine zqa rfl _ _ rfl W2.heap.size (.slice Av _ cv) _ rfl HO4.out ⟨wr.heap.size,0,none⟩ 1 y.s rfl hcn (by rw [hlj];omega) (by omega) ?_))
   intro A' c' w5 hO5 hb5
   try rw [hlj] at hO5
   have HO5:=Zh hO5;have HB5:=Zh (HB4.out.trans hb5);clear hO5 hb5;go_wp2_with fail
   refine ⟨⟨j+1,by omega,by go_num,?_,HB5.out⟩,by simp [intOf];omega⟩;have e:((x.states.take (j+1)).map Dc.s)=((x.states.take j).map Dc.s)++[y.s]:=by rw [List.take_add_one,HY.out];simp
   rw [e]
   first | exact HO5.out | (rw [List.map_take];exact HO5.out) | (rw [List.append_assoc];exact HO5.out) | (rw [List.append_assoc,List.map_take];exact HO5.out) | (rw [List.map_take,List.append_assoc];exact HO5.out) | (simpa [Hid] using HO5.out)
  ·have hjk:n=j:=by omega
   subst hjk;have htk:((x.states.take n).map Dc.s)=x.states.map Dc.s:=by rw [Xd (by rw [HS1.out.len];exact Ya _)]
   rw [htk] at hSv;have HSv:=Zh hSv;have HOv:Hid (zqq wr W2.heap.size (.slice Av _ cv) _):=HO.out;have HBv:=Zh HB.out;have HBw:=Zh hBw;clear hSv htk hlj HO HB hBw;have HA:=Zh HOv.out.nil0;have HSs0:=Zh HSv.out
   go_wp2_with (at_builtin;go_loud (refine zqY rfl _ _ 54 rfl 9 1 16 _ zrX rfl (by decide) (by decide) Tryz.underlying54 wr.heap.size (.slice none 0 0) [] rfl (zKf.nil _ _ _ _) Av _ cv _ zqt rfl HSv.out HA.out (by simp;omega) (Ya _) ?_))
   intro v5 w5 gs ho5 hg5 hr5 hb5;have hgs:=zrG (xs:=x.states.map Dc.s) (by rw [hg5,Xe];exact HS1.out.len.symm) (fun q g y h1 h2=>by rw [List.getElem?_map] at h2;obtain ⟨a,ha,hb⟩:=Option.map_eq_some_iff.1 h2;exact hr5 q g y h1 a ha hb)
   try rw [List.nil_append] at ho5
   rw [hgs] at ho5;have HO5:=Zh (zqq.of_k ho5);have HB5:=Zh hb5;have KB5:=Zh (HKB.out.below hb5 HKB.out.lt);have HS5:=Zh (HSv.out.next zqW hb5);have HBW5:=Zh (zAA HBw.out hb5);have hs5:=hb5.size;clear ho5 hg5 hr5 hb5 hgs z0;go_wp2_with fail
   generalize wr=W3 at *
   go_loopw [5,7] (fun vo vi wr=>∃j:Nat,j<=m/\vi=.int .i64 j/\Hid (zqq wr W3.heap.size vo (x.states.map Dc.s++(x.params.take j).map Dc.s))/\Hid (Below W3.heap.size W3 wr)) (fun _ vi _=>m - (intOf vi).toNat)
   case atStart=>exact ⟨0,Nat.zero_le _,rfl,by simpa [Hid] using (show zqq w5 W3.heap.size v5 (x.states.map Dc.s) from HO5.out),HB5.out⟩
   case round=>
    obtain ⟨j,hj,rfl,HO,HB⟩:=hrel;have hsz:=HB.out.size;have hBw:=zAA HBw.out HB.out;have HKB:=Zh (HKB.out.below HB.out (HKB.out).lt);have hlj:(x.states.map Dc.s++(x.params.take j).map Dc.s).length=n+j:=by have l1:=HS1.out.len;have l2:=HS2.out.len;simp only [Yu,Xe,Yr];omega
    obtain ⟨Av,cv,hv,hSv⟩:=HO.out.sl;rw [hlj] at hv hSv;subst hv;have z0:=HKB.out.cell 1;by_cases hlt:j<m
    ·obtain ⟨b,off,y,vs,rfl,hbl,hy,hlk,hRy,hc⟩:=HS2.out.get hlt
     have hRr:vs=zqb y:=hRy;subst hRr;have z1:=(hBw.cell (p:=⟨b,off+j*5,none⟩) hbl).trans (hc 0 _ rfl);obtain ⟨W4,e4,hb4,k4⟩:=al1 wr #[.string y.s] 9;have hcn:=k4.cell 0;have HO4:=Zh (HO.out.below hb4);have HB4:=Zh (zAA HB.out hb4);have hs4:=HB4.out.size;have HY:=Zh hy;have hcap:=HS2.out.cap;have hmax:=HS2.out.max;clear hb4 k4 hc hlk hy hSv
     go_wp2_with (at_builtin;go_loud (refine zqa rfl _ _ rfl W3.heap.size (.slice Av _ cv) _ rfl HO4.out ⟨wr.heap.size,0,none⟩ 1 y.s rfl hcn (by rw [hlj];omega) (by omega) ?_))
     intro A' c' w5 hO5 hb5
     try rw [hlj] at hO5
     have HO5:=Zh hO5;have HB5:=Zh (HB4.out.trans hb5);clear hO5 hb5;go_wp2_with fail
     refine ⟨⟨j+1,by omega,by go_num,?_,HB5.out⟩,by simp [intOf];omega⟩;have e:(x.states.map Dc.s++(x.params.take (j+1)).map Dc.s)=(x.states.map Dc.s++(x.params.take j).map Dc.s)++[y.s]:=by rw [List.take_add_one,HY.out];simp
     rw [e]
     first | exact HO5.out | (rw [List.map_take];exact HO5.out) | (rw [List.append_assoc];exact HO5.out) | (rw [List.append_assoc,List.map_take];exact HO5.out) | (rw [List.map_take,List.append_assoc];exact HO5.out) | (simpa [Hid] using HO5.out)
    ·have hjk:m=j:=by omega
     subst hjk;have htk:(x.states.map Dc.s++(x.params.take m).map Dc.s)=x.states.map Dc.s++x.params.map Dc.s:=by rw [Xd (by rw [HS2.out.len];exact Ya _)]
     rw [htk] at hSv;have HSv:=Zh hSv;have HOv:Hid (zqq wr W3.heap.size (.slice Av _ cv) _):=HO.out;have HBv:=Zh HB.out;have HBw:=Zh hBw;clear hSv htk hlj HO HB hBw;have HSs:=Zh ((HSs0.out.next zqW HBv.out));go_wp2_with fail
     go_ret2
     exact ⟨_,_,_,_,_,_,rfl,HSs.out,HSv.out,HBw.out⟩
theorem zri {x:Xn}(h:xvP x=true):x.flat.length<=800:=by
 have hc:=of_decide_eq_true (show decide (cnt 20 x<=200)=true from h);have:=(zrh 20 x hc).2;omega
theorem zvp {m:Md}(h:mdP m=true):FlM m:=by
 unfold mdP at h;simp only [Yi,Xa,List.all_eq_true] at h;obtain ⟨⟨⟨⟨h1,h2⟩,h3⟩,h4⟩,h5⟩:=h;have hq:∀y:Eq1,eqP y=true->y.e.flat.length<=800:=fun y hy=>by
  unfold eqP at hy;rw [Yi] at hy;exact zri hy.2
 refine ⟨fun y hy=>hq y (h4 y hy),h2,fun x hx=>?_,h3⟩;have hx:=h5 x hx;unfold edP at hx;simp only [Yi,Xa,List.all_eq_true] at hx;obtain ⟨⟨⟨⟨g1,g2⟩,g3⟩,g4⟩,g5⟩:=hx;exact ⟨zri g1,fun y hy=>hq y (g5 y hy),g4⟩
theorem zuC:∀ (W:World) vs (x:Dc),RDc W vs x->∀u∈vs,u.oneCell' = true:=by
 intro W vs x h u hu;unfold RDc at h;subst h;simp at hu;rcases hu with rfl | rfl | rfl | rfl | rfl <;> rfl
theorem zuD {fs:List (List Value)}{w:World}{xs:List Dc}(h:fs.length=xs.length) (hR:∀ (j:Nat) (g:List Value) (y:Dc),fs[j]? = some g->xs[j]? = some y->RDc w g y):fs=xs.map zqb:=by
 apply List.ext_getElem?
 intro j;by_cases hj:j<fs.length
 ·have h1:fs[j]? = some fs[j]:=Yo hj
  have h2:xs[j]? = some xs[j]:=Yo (by omega);have h3:fs[j]=zqb xs[j]:=hR j _ _ h1 h2;rw [h1,List.getElem?_map,h2,h3];rfl
 ·rw [Yy (by omega),Yy (by rw [Xe];omega)]
theorem zsO (F:Nat->Prop) (d:Nat) (us:List Value) (x:Pb) (w:World) (h:RPb F d w us x) (hz:SzP x) (hx:pbP x=true) (hF:∀b,F b->b<w.heap.size):Calls Tryz.prog 18 #[.agg us.toArray] w (zpF (zq1 x) w):=by
 have HP13:=Zh (fun W (hb:Below w.heap.size w W)=>zrK F d us x W (zqf F d _ _ _ _ h hb) hz);rw [hx] at HP13;have hx':=hx;unfold pbP at hx';simp only [Yi,Xa,List.all_eq_true] at hx';obtain ⟨⟨⟨⟨⟨⟨⟨⟨h1,h2⟩,h3⟩,h4⟩,h5⟩,h6⟩,h7⟩,h8⟩,h9⟩:=hx';have HNA:=Zh (fun W (hb:Below w.heap.size w W)=>zsV F d us x W (zqf F d _ _ _ _ h hb) h2 h3);obtain ⟨A,n,c,B,m,q,C,i,p,rfl,hS1,hS2,hS3,hA0,hB0⟩:=h;have hn4:n<=4:=by rw [<- hS1.len];exact h2
 have hm4:m<=4:=by rw [<- hS2.len];exact h3
 have hi8:i<=8:=by rw [<- hS3.len];exact h5
 obtain ⟨W0,e0,hb0,kb,kr⟩:=al2 w #[.slice A n c,.slice B m q,.slice C i p,.int .i64 x.n,.int .i64 x.d] 27 #[.int .i64 0,.string ⟨#[]⟩] 64;obtain ⟨q0,q1,q2,q3,q4⟩:=zq2 kb;have HS1:=Zh (fun W (hb:Below w.heap.size w W)=>hS1.next zqZ hb);have HS2:=Zh (fun W (hb:Below w.heap.size w W)=>hS2.next zqZ hb);have HS3:=Zh hS3;have HL1:=Zh hS1.len;have HL2:=Zh hS2.len;have HA0:=Zh hA0;have HB00:=Zh hB0;have H6:=Zh h6;have H7:=Zh h7;have H8:=Zh h8;have HF:=Zh hF;have KB:=Zh kb;have KR:=Zh kr;have HB:=Zh hb0;have hsl:=kr.lt;clear hS1 hS2 hS3 hF h1 h2 h3 h4 h5 h6 h7 h8 h9 hA0 hB0 hb0 kb kr hx hz;go_enter Tryz.func18,Tryz.ntmps18
 go_wp2_with fail
 clear e0 q0 q1 q2 q3 q4;refine (HP13.out _ HB.out).mono ?_;rintro e w1 ⟨rfl,hb1⟩
 replace KB:=Zh (KB.out.below hb1 KB.out.lt);replace KR:=Zh (KR.out.below hb1 KR.out.lt);replace HB:=Zh (zAA HB.out hb1);clear hb1 HP13;obtain ⟨q0,q1,q2,q3,q4⟩:=zq2 KB.out;go_wp2_with fail
 clear q0 q1 q2 q3 q4;refine (HNA.out _ HB.out).mono ?_;rintro e w2 ⟨As,ns,cs,Aa,na,ca,rfl,hSs,hSa,hb2⟩
 replace KB:=Zh (KB.out.below hb2 KB.out.lt);replace KR:=Zh (KR.out.below hb2 KR.out.lt);replace HB:=Zh (zAA HB.out hb2);have HSs:=Zh hSs;have HSa:=Zh hSa;clear hb2 hSs hSa HNA;obtain ⟨q0,q1,q2,q3,q4⟩:=zq2 KB.out;go_wp2_with fail
 clear q0 q1 q2 q3 q4;have HBo:=Zh HB.out;clear HB
 go_loopw [5,6] (fun vo vi wr=>∃j:Nat,j<=i/\vi=.int .i64 j/\Hid (zqq wr w2.heap.size vo ((x.modes.take j).map Md.s))/\Hid (Below w2.heap.size w2 wr)) (fun _ vi _=>i - (intOf vi).toNat)
 case atStart=>exact ⟨0,Nat.zero_le _,rfl,by simpa [Hid] using (zqq.nil w2 w2.heap.size),Yp _ _⟩
 case round=>
  obtain ⟨j,hj,rfl,HO,HB⟩:=hrel;have hsz:=HB.out.size;have hBw:=zAA HBo.out HB.out;have HKB:=Zh (KB.out.below HB.out (KB.out).lt);have hlj:((x.modes.take j).map Md.s).length=j:=by have l2:=HS3.out.len;simp only [Yu,Xe,Yr];omega
  obtain ⟨Av,cv,hv,hSv⟩:=HO.out.sl;rw [hlj] at hv hSv;subst hv;have z0:=HKB.out.cell 2;by_cases hlt:j<i
  ·obtain ⟨b,off,y,vs,rfl,hbl,hy,hlk,hRy,hc⟩:=HS3.out.get hlt
   obtain ⟨A5,m5,c5,B5,n5,c6,rfl,-,-⟩:=hRy;have z1:=(hBw.cell (p:=⟨b,off+j*3,none⟩) hbl).trans (hc 0 _ rfl);obtain ⟨W4,e4,hb4,k4⟩:=al1 wr #[.string y.s] 9;have hcn:=k4.cell 0;have HO4:=Zh (HO.out.below hb4);have HB4:=Zh (zAA HB.out hb4);have hs4:=HB4.out.size;have HY:=Zh hy;have hcap:=HS3.out.cap;have hmax:=HS3.out.max;clear hb4 k4 hc hlk hy hSv
   go_wp2_with (at_builtin;go_loud (refine zqa rfl _ _ rfl w2.heap.size (.slice Av _ cv) _ rfl HO4.out ⟨wr.heap.size,0,none⟩ 1 y.s rfl hcn (by rw [hlj];omega) (by omega) ?_))
   intro A' c' w5 hO5 hb5
   try rw [hlj] at hO5
   have HO5:=Zh hO5;have HB5:=Zh (HB4.out.trans hb5);clear hO5 hb5;go_wp2_with fail
   refine ⟨⟨j+1,by omega,by go_num,?_,HB5.out⟩,by simp [intOf];omega⟩;have e:((x.modes.take (j+1)).map Md.s)=((x.modes.take j).map Md.s)++[y.s]:=by rw [List.take_add_one,HY.out];simp
   rw [e]
   first | exact HO5.out | (rw [List.map_take];exact HO5.out) | (rw [List.append_assoc];exact HO5.out) | (rw [List.append_assoc,List.map_take];exact HO5.out) | (rw [List.map_take,List.append_assoc];exact HO5.out) | (simpa [Hid] using HO5.out)
  ·have hjk:i=j:=by omega
   subst hjk;have htk:((x.modes.take i).map Md.s)=x.modes.map Md.s:=by rw [Xd (by rw [HS3.out.len];exact Ya _)]
   rw [htk] at hSv;have HSv:=Zh hSv;have HOv:Hid (zqq wr w2.heap.size (.slice Av _ cv) _):=HO.out;have HBv:=Zh HB.out;have HBw:=Zh hBw;clear hSv htk hlj HO HB hBw;have HSm:=Zh HSv.out;replace HSs:=Zh (HSs.out.next zqW HBv.out);replace HSa:=Zh (HSa.out.next zqW HBv.out);replace KB:=Zh HKB.out;replace KR:=Zh (KR.out.below HBv.out KR.out.lt);replace HB:=Zh HBw.out;have HRp:=Zh (zrB _ _ _ _ wr HSa.out);clear HOv HSv HBv HBw HKB;go_wp2_with fail
   clear z0;refine HRp.out.mono ?_;rintro e w5 ⟨c5,s5,rfl,hpr,hbr⟩
   have HPr:=Zh hpr;replace KB:=Zh (KB.out.below hbr KB.out.lt);replace KR:=Zh (KR.out.below hbr KR.out.lt);replace HB:=Zh (zAA HB.out hbr);clear hpr HRp;obtain ⟨Xw5,eX,hbX,kX⟩:=al1 w5 #[.int .i64 c5,.string s5] 64;obtain ⟨x0,x1⟩:=zuB kX;replace KB:=Zh (KB.out.below hbX KB.out.lt);replace KR:=Zh (KR.out.below hbX KR.out.lt);replace HB:=Zh (zAA HB.out hbX);by_cases hcc:c5=0
   rotate_left
   ·have hce:(c5 == 0)=false:=by simpa using hcc
    have HNo:=Zh (fun (h:zq1 x)=>hcc (HPr.out.2 h.names));have c0:=KR.out.cell 0;have c1:=KR.out.cell 1;have f0:=KR.out.frozen 0;have f1:=KR.out.frozen 1;have K9:=Zh (KR.out.set2 (.int .i64 c5) (.string s5));have HB9:=Zh (HB.out.trans (KR.out.bel2 (B:=w.heap.size) (by omega) (.int .i64 c5) (.string s5)));go_wp2_with fail
    exact zrd Tryz.results18 rfl K9.out ⟨fun h=>absurd h hcc,fun h=>absurd h HNo.out⟩ HB9.out
   subst hcc;have HND1:=Zh (HPr.out.1 rfl);replace HSs:=Zh (HSs.out.next zqW (zAA hbr hbX));replace HSa:=Zh (HSa.out.next zqW (zAA hbr hbX));replace HSm:=Zh (HSm.out.next zqW (zAA hbr hbX));have HRp2:=Zh (zrB _ _ _ _ Xw5 HSm.out);clear hbr hbX kX HPr;go_wp2_with fail
   clear eX x0 x1;refine HRp2.out.mono ?_;rintro e w6 ⟨c6,s6,rfl,hpr,hbr⟩
   have HPr:=Zh hpr;replace KB:=Zh (KB.out.below hbr KB.out.lt);replace KR:=Zh (KR.out.below hbr KR.out.lt);replace HB:=Zh (zAA HB.out hbr);clear hpr HRp2;obtain ⟨Xw6,eX,hbX,kX⟩:=al1 w6 #[.int .i64 c6,.string s6] 64;obtain ⟨x0,x1⟩:=zuB kX;replace KB:=Zh (KB.out.below hbX KB.out.lt);replace KR:=Zh (KR.out.below hbX KR.out.lt);replace HB:=Zh (zAA HB.out hbX);by_cases hcc:c6=0
   rotate_left
   ·have hce:(c6 == 0)=false:=by simpa using hcc
    have HNo:=Zh (fun (h:zq1 x)=>hcc (HPr.out.2 h.modes));have c0:=KR.out.cell 0;have c1:=KR.out.cell 1;have f0:=KR.out.frozen 0;have f1:=KR.out.frozen 1;have K9:=Zh (KR.out.set2 (.int .i64 c6) (.string s6));have HB9:=Zh (HB.out.trans (KR.out.bel2 (B:=w.heap.size) (by omega) (.int .i64 c6) (.string s6)));go_wp2_with fail
    exact zrd Tryz.results18 rfl K9.out ⟨fun h=>absurd h hcc,fun h=>absurd h HNo.out⟩ HB9.out
   subst hcc;have HND2:=Zh (HPr.out.1 rfl);replace HSs:=Zh (HSs.out.next zqW (zAA hbr hbX));replace HSa:=Zh (HSa.out.next zqW (zAA hbr hbX));replace HSm:=Zh (HSm.out.next zqW (zAA hbr hbX));clear hbr hbX kX HPr;go_upto_region 15 with fail
   clear eX x0 x1;have HK:Hid (∀W,Below Xw6.heap.size Xw6 W->(fun W=>W.cell? ⟨w.heap.size,0,none⟩=some (.slice A n c)/\W.cell? ⟨w.heap.size,1,none⟩=some (.slice B m q)) W):=fun W hW=>⟨(KB.out.below hW KB.out.lt).cell 0,(KB.out.below hW KB.out.lt).cell 1⟩
   have hbw:∀W,Below Xw6.heap.size Xw6 W->Below w.heap.size w W:=fun W hW=>zAA HB.out hW
   have hB:=bdr Xw6;have HKp:=Zh (HK.out _ hB);refine wp_region_held_drew (S:=(fun W=>W.cell? ⟨w.heap.size,0,none⟩=some (.slice A n c)/\W.cell? ⟨w.heap.size,1,none⟩=some (.slice B m q))) (by kernel_rfl) (HKp.out) (fun hH=>?_);generalize Xw6.drew=Wd at *;refine tkh 1 hH ?_;refine tkh 2 hH ?_;refine tkh 4 hH ?_;refine tkh 5 hH ?_;simp only [Act.put,sT,sZ,sS];refine rdh 0 (fun K hK=>?_)
   go_simp
   have HO:=Zh (zKf.made0 (k:=5) (base:=Xw6.heap.size) (Blk.new Wd 94 #[]) (by have:=hB.size;omega));have hc:=zAE Wd (.cells #[] 94);have hga:=hB.size;replace hB:=zAA hB hc;replace HKp:=Zh (HK.out _ hB);clear hc;generalize hV0:(Wd.alloc (.cells #[] 94))=V0 at *;refine hK.out _ _ (HKp.out) (fun hH=>?_);clear hK K;refine rdh 3 (fun K hK=>?_);refine zsI rfl _ _ 22 rfl 94 5 48 _ zsj rfl (by decide) (by decide) Tryz.underlying22 Xw6.heap.size _ [] rfl HO.out A _ c x.states zuC rfl (HS1.out _ (hbw _ hB)) HA0.out (by simp [HL1.out];omega) hB.size ?_;intro vV1 V1 gs ho hg hr hb;have hgs:=zuD (by rw [hg];first | exact HL1.out.symm | exact HL2.out.symm) hr;rw [List.nil_append,hgs] at ho;have HO1:=Zh ho;replace hB:=hB.trans hb;replace HKp:=Zh (HK.out _ hB);clear ho hg hr hb hgs;refine hK.out _ _ (HKp.out) (fun hH=>?_);clear hK K;refine rdh 6 (fun K hK=>?_);refine zsI rfl _ _ 22 rfl 94 5 48 _ zsj rfl (by decide) (by decide) Tryz.underlying22 Xw6.heap.size _ (x.states.map zqb) rfl HO1.out B _ q x.params zuC rfl (HS2.out _ (hbw _ hB)) HB00.out (by simp [HL1.out];omega) hB.size ?_;intro vV2 V2 gs ho hg hr hb;have hgs:=zuD (by rw [hg];first | exact HL1.out.symm | exact HL2.out.symm) hr;rw [hgs,<- List.map_append] at ho;have HO2:=Zh ho;replace hB:=hB.trans hb;replace HKp:=Zh (HK.out _ hB);clear ho hg hr hb hgs;refine hK.out _ _ (HKp.out) (fun hH=>?_);clear hK K;refine tkh 7 hH ?_;simp only [Act.put,sT,sZ,sS];refine wpAnyH_done (by kernel_rfl) ?_ _;go_wp2_with fail
   obtain ⟨Ad,cd,hvd,hSd⟩:=zuJ HO2.out;subst hvd;have hld:(x.states++x.params).length=n+m:=by rw [Yu,HL1.out,HL2.out]
   rw [hld] at hSd;have HSd:=Zh hSd;have HBd:=Zh (hbw _ hB);have KB3:=Zh (KB.out.below hB KB.out.lt);have KR3:=Zh (KR.out.below hB KR.out.lt);have HBx:=Zh hB;clear hSd HO HO1 HO2 HKp HK hB
   try rw [hld]
   go_loopw [10] (fun vi wr=>∃j:Nat,j<=n+m/\vi=.int .i64 j/\Hid (∀g z,g<j->(x.states++x.params)[g]? = some z->z.a*z.d<=z.c*z.b)/\Hid (Below V2.heap.size V2 wr)) (fun vi _=>n+m - (intOf vi).toNat)
   case atStart=>exact ⟨0,Nat.zero_le _,rfl,fun g z hg=>absurd hg (by omega),Yp _ _⟩
   case round=>
    obtain ⟨j,hj,rfl,HQ,HBv⟩:=hrel;have HBn:=Zh (zAA HBd.out HBv.out);have KRn:=Zh (KR3.out.below HBv.out KR3.out.lt);have KBn:=Zh (KB3.out.below HBv.out KB3.out.lt);have hszn:=HBn.out.size;by_cases hlt:j<n+m
    ·obtain ⟨b,off,y,vs,rfl,hbl,hy,hlk,hRy,hc⟩:=HSd.out.get hlt
     have hRr:vs=zqb y:=hRy;subst hRr;have hyP:dcP y=true:=by
      rcases Yt.1 (Yk hy) with h | h
      ·exact H7.out y h
      ·exact H8.out y h
     unfold dcP at hyP;simp only [Yi] at hyP;have HCm:=Zh (zsx y.a y.b y.c y.d hyP.2.1 hyP.2.2);have HY:=Zh hy;have HK:Hid (∀W,Below wr.heap.size wr W->(fun W=>W.cell? ⟨b,off+j*5+1,none⟩=some (.int .i64 y.a)/\W.cell? ⟨b,off+j*5+2,none⟩=some (.int .i64 y.b)/\W.cell? ⟨b,off+j*5+3,none⟩=some (.int .i64 y.c)/\W.cell? ⟨b,off+j*5+4,none⟩=some (.int .i64 y.d)) W):=fun W hW=>by
      have hV:=zAA HBv.out hW;exact ⟨(hV.cell (p:=⟨b,off+j*5+1,none⟩) hbl).trans (hc 1 _ rfl),(hV.cell (p:=⟨b,off+j*5+2,none⟩) hbl).trans (hc 2 _ rfl),(hV.cell (p:=⟨b,off+j*5+3,none⟩) hbl).trans (hc 3 _ rfl),(hV.cell (p:=⟨b,off+j*5+4,none⟩) hbl).trans (hc 4 _ rfl)⟩
     have HName:=Zh (fun (W:World) (hW:Below wr.heap.size wr W)=>((zAA HBv.out hW).cell (p:=⟨b,off+j*5,none⟩) hbl).trans (hc 0 _ rfl));have hB:=bdr wr;have HKp:=Zh (HK.out _ hB);have hcap:=HSd.out.cap;have hmax:=HSd.out.max;clear hRy hc hlk hy hyP;go_upto_region 19 with fail
     refine wp_region_held_drew (S:=(fun W=>W.cell? ⟨b,off+j*5+1,none⟩=some (.int .i64 y.a)/\W.cell? ⟨b,off+j*5+2,none⟩=some (.int .i64 y.b)/\W.cell? ⟨b,off+j*5+3,none⟩=some (.int .i64 y.c)/\W.cell? ⟨b,off+j*5+4,none⟩=some (.int .i64 y.d))) (by kernel_rfl) (HKp.out) (fun hH=>?_);generalize wr.drew=Wd at *;refine tkh 0 hH ?_;refine tkh 1 hH ?_;refine tkh 2 hH ?_;refine tkh 3 hH ?_;refine tkh 4 hH ?_;refine tkh 5 hH ?_;refine tkh 6 hH ?_;refine tkh 7 hH ?_;refine tkh 8 hH ?_;refine tkh 9 hH ?_;refine tkh 10 hH ?_;refine tkh 11 hH ?_;simp only [Act.put,sT,sZ,sS];refine rdh 12 (fun K hK=>?_)
     go_simp
     refine (HCm.out _).mono ?_;rintro e3 V1 ⟨rr,rfl,hrr,hc⟩
     have HRR:=Zh hrr;replace hB:=zAA hB hc;replace HKp:=Zh (HK.out _ hB);clear hc hrr;go_wp2_with fail
     refine hK.out _ _ (HKp.out) (fun hH=>?_);clear hK K;refine tkh 13 hH ?_;simp only [Act.put,sT,sZ,sS];refine wpAnyH_done (by kernel_rfl) ?_ _;by_cases hr0:rr<=0
     ·have HQ2:Hid (∀g z,g<j+1->(x.states++x.params)[g]? = some z->z.a*z.d<=z.c*z.b):=fun g z hg hz=>by
       by_cases hgj:g<j
       ·exact HQ.out g z hgj hz
       ·obtain rfl:g=j:=by omega
        rw [HY.out] at hz;injection hz with hz
        rw [<- hz];exact HRR.out.1 hr0
      have HBn2:=Zh (HBv.out.trans (hB.mono HBv.out.size));go_wp2_with fail
      exact ⟨⟨j+1,by omega,by go_num,HQ2.out,zAA HBv.out hB⟩,by simp [intOf];omega⟩
     ·have hr0':0<rr:=by omega
      have HNo:Hid (¬ zq1 x):=fun h=>hr0 (HRR.out.2 (h.ranges y (Yk HY.out)))
      obtain ⟨z1,z2,z3,z4⟩:=HKp.out;have z0:=HName.out _ hB;go_wp2_with fail
      refine (zqc _ _ _).mono ?_;rintro e w9 ⟨rfl,hb9⟩
      have k9:=(KRn.out.below hB KRn.out.lt).below hb9 ((KRn.out.below hB KRn.out.lt)).lt;have c0:=k9.cell 0;have c1:=k9.cell 1;have f0:=k9.frozen 0;have f1:=k9.frozen 1;have K9:=Zh (k9.set2 (.int .i64 2) (.string y.s));have HB9:=Zh ((zAA (zAA HBn.out hB) hb9).trans (k9.bel2 (B:=w.heap.size) (by omega) (.int .i64 2) (.string y.s)));clear k9 hb9;go_wp2_with fail
      exact zrd Tryz.results18 rfl K9.out ⟨fun h=>absurd h (by decide),fun h=>absurd h HNo.out⟩ HB9.out
    ·obtain rfl:j=n+m:=by omega
     have HRg:Hid (∀z∈x.states++x.params,z.a*z.d<=z.c*z.b):=fun z hz=>by
      obtain ⟨g,hg⟩:=List.mem_iff_getElem?.1 hz;exact HQ.out g z (by have:=(Yb.1 hg).1;omega) hg
     clear HQ;have z3:=KBn.out.cell 3;by_cases ht:0<x.n
     ·have z2:=KBn.out.cell 2
      replace HSs:=Zh (HSs.out.next zqW (zAA HBx.out HBv.out));replace HSa:=Zh (HSa.out.next zqW (zAA HBx.out HBv.out));replace HSm:=Zh (HSm.out.next zqW (zAA HBx.out HBv.out));go_wp2_with fail
      clear z2 z3;generalize wr=W7 at *
      go_loopw [11] (fun vi wr=>∃j:Nat,j<=i/\vi=.int .i64 j/\Hid (∀g z,g<j->x.modes[g]? = some z->ztF (x.states.map Dc.s) x.names (x.modes.map Md.s) z)/\Hid (Below W7.heap.size W7 wr)) (fun vi _=>i - (intOf vi).toNat)
      case atStart=>exact ⟨0,Nat.zero_le _,rfl,fun g z hg=>absurd hg (by omega),Yp _ _⟩
      case round=>
       obtain ⟨j,hj,rfl,HQ,HBm⟩:=hrel;have HBk:=Zh (zAA HBn.out HBm.out);have KRk:=Zh (KRn.out.below HBm.out KRn.out.lt);have KBk:=Zh (KBn.out.below HBm.out KBn.out.lt);have hszk:=HBk.out.size;have z2:=KBk.out.cell 2;by_cases hlt:j<i
       ·obtain ⟨b,off,y,vs,rfl,hbl,hy,hlk,hRy,hc⟩:=HS3.out.get hlt
        have HMo:=Zh (zs8 _ _ _ _ _ _ _ _ _ _ _ _ F d vs y wr (HSs.out.next zqW HBm.out) (HSa.out.next zqW HBm.out) (HSm.out.next zqW HBm.out) (zqr F d _ _ _ _ hRy HBk.out) (fun b hb=>Yh (HF.out b hb) HBk.out.size) (zvp (H6.out y (Yk hy))));obtain ⟨A5,m5,c5',B5,n5,c6',rfl,-,-⟩:=hRy;have r0:=(HBk.out.cell (p:=⟨b,off+j*3,none⟩) hbl).trans (hc 0 _ rfl);have r1:=(HBk.out.cell (p:=⟨b,off+j*3+1,none⟩) hbl).trans (hc 1 _ rfl);have r2:=(HBk.out.cell (p:=⟨b,off+j*3+2,none⟩) hbl).trans (hc 2 _ rfl);have HY:=Zh hy;have hcap:=HS3.out.cap;have hmax:=HS3.out.max;clear hc hlk hy;go_wp2_with fail
        clear r0 r1 r2 z2;refine HMo.out.mono ?_;rintro e w8 ⟨c8,s8,rfl,hp,hb8⟩
        have HPr:=Zh hp;replace KBk:=Zh (KBk.out.below hb8 KBk.out.lt);replace KRk:=Zh (KRk.out.below hb8 KRk.out.lt);replace HBk:=Zh (zAA HBk.out hb8);clear hp;obtain ⟨Xw8,eX,hbX,kX⟩:=al1 w8 #[.int .i64 c8,.string s8] 64;obtain ⟨x0,x1⟩:=zuB kX;replace KBk:=Zh (KBk.out.below hbX KBk.out.lt);replace KRk:=Zh (KRk.out.below hbX KRk.out.lt);replace HBk:=Zh (zAA HBk.out hbX);by_cases hcc:c8=0
        rotate_left
        ·have hce:(c8 == 0)=false:=by simpa using hcc
         have HNo:=Zh (fun (h:zq1 x)=>hcc (HPr.out.2 (h.mode y (Yk HY.out))));have c0:=KRk.out.cell 0;have c1:=KRk.out.cell 1;have f0:=KRk.out.frozen 0;have f1:=KRk.out.frozen 1;have K9:=Zh (KRk.out.set2 (.int .i64 c8) (.string s8));have HB9:=Zh (HBk.out.trans (KRk.out.bel2 (B:=w.heap.size) (by omega) (.int .i64 c8) (.string s8)));go_wp2_with fail
         exact zrd Tryz.results18 rfl K9.out ⟨fun h=>absurd h hcc,fun h=>absurd h HNo.out⟩ HB9.out
        subst hcc;have HQ2:Hid (∀g z,g<j+1->x.modes[g]? = some z->ztF (x.states.map Dc.s) x.names (x.modes.map Md.s) z):=fun g z hg hz=>by
         by_cases hgj:g<j
         ·exact HQ.out g z hgj hz
         ·obtain rfl:g=j:=by omega
          rw [HY.out] at hz;injection hz with hz
          rw [<- hz];exact HPr.out.1 rfl
        have HBm2:=Zh (zAA HBm.out (zAA hb8 hbX));clear hb8 hbX kX;go_wp2_with fail
        go_roundw
        case rel=>
         refine ⟨_,_,_,_,_,_,_,_,_,_,_,_,_,_,_,_,_,_,_,_,_,_,⟨j+1,by omega,?_,HQ2.out,HBm2.out⟩,rfl⟩
         go_num
        case measure=>simp [intOf];omega
       ·have hji:i=j:=by omega
        subst hji;have HR:Hid (zq1 x):=⟨HND1.out,HND2.out,HRg.out,ht,fun z hz=>by
         obtain ⟨g,hg⟩:=List.mem_iff_getElem?.1 hz;exact HQ.out g z (by have:=(Yb.1 hg).1;have:=HS3.out.len;omega) hg⟩
        have c0:=(KRk.out).cell 0;have c1:=(KRk.out).cell 1;have f0:=(KRk.out).frozen 0;have f1:=(KRk.out).frozen 1;have K9:=Zh ((KRk.out).set2 (.int .i64 0) (.string ⟨#[]⟩));have HB9:=Zh ((HBk.out).trans ((KRk.out).bel2 (B:=w.heap.size) (by omega) (.int .i64 0) (.string ⟨#[]⟩)));go_wp2_with fail
        exact zrd Tryz.results18 rfl K9.out ⟨fun _=>HR.out,fun _=>rfl⟩ HB9.out
     ·have HNo:Hid (¬ zq1 x):=fun h=>ht h.time
      have ht':x.n<=0:=by omega
      go_wp2_with fail
      refine (zqc _ _ _).mono ?_;rintro e w9 ⟨rfl,hb9⟩
      have k9:=KRn.out.below hb9 (KRn.out).lt;have c0:=k9.cell 0;have c1:=k9.cell 1;have f0:=k9.frozen 0;have f1:=k9.frozen 1;have K9:=Zh (k9.set2 (.int .i64 2) (.string ⟨#[]⟩));have HB9:=Zh ((zAA (HBn.out) hb9).trans (k9.bel2 (B:=w.heap.size) (by omega) (.int .i64 2) (.string ⟨#[]⟩)));clear k9 hb9;go_wp2_with fail
      exact zrd Tryz.results18 rfl K9.out ⟨fun h=>absurd h (by decide),fun h=>absurd h HNo.out⟩ HB9.out
theorem zy0 (cc:Int) (ss:ByteArray) (w:World):Sem.run Tryz.prog (Instr.field 64 (.agg #[.int .i64 cc,.string ss]) 0) w=.ok (.int .i64 cc) w:=by
 simp [Instr.field,Sem.run_bind,Tryz.underlying64,asAgg,go_sem]
theorem zsc (F:Nat->Prop) (d:Nat) (us:List Value) (x:Pb) (w:World) (h:RPb F d w us x) (hz:SzP x) (hx:pbP x=true) (hF:∀b,F b->b<w.heap.size):Calls Tryz.prog 6 #[.agg us.toArray] w fun e w'=>∃t,e=.returned (.bool t)/\(t=true ↔ zq1 x)/\Below w.heap.size w w':=by
 have HC:=Zh (fun W (hb:Below w.heap.size w W)=>zsO F d us x W (zqf F d _ _ _ _ h hb) hz hx (fun b hb'=>Yh (hF b hb') hb.size));obtain ⟨A,n,c,B,m,q,C,i,p,rfl,-,-,-,-⟩:=h;obtain ⟨W0,e0,hb0,kb⟩:=al1 w #[.slice A n c,.slice B m q,.slice C i p,.int .i64 x.n,.int .i64 x.d] 27;obtain ⟨q0,q1,q2,q3,q4⟩:=zq2 kb;have HB0:=Zh hb0;clear hz hx hF kb hb0;go_enter Tryz.func6,Tryz.ntmps6
 go_wp2_with fail
 clear e0 q0 q1 q2 q3 q4;refine (HC.out _ HB0.out).mono ?_;rintro e w1 ⟨cc,ss,rfl,hp,hb1⟩
 have HP:=Zh hp;have HB1:=Zh (zAA HB0.out hb1);have hfl:=zy0 cc ss w1;clear hp hb1 HC;go_wp2_with fail
 go_ret;exact ⟨_,rfl,by rw [<- HP.out];simp,HB1.out⟩
theorem zsa (p q:Addr) (w:World) :
  CallsD Tryz.prog 80 #[.pointer (some p),.pointer (some q)] .returning w fun e u' w'=>e=.returned (.tuple #[])/\u' = .returning/\w' = w:=by
 refine callsD_of_wpS Tryz.func80 rfl fun c₀ cs hu=>?_
 apply wpS_seq
 apply wpS_region
 simp [wpOpsS,go_sem,recoverD,hu,Tryz.ntmps80,Exit.thenS];refine wpS_of_wp ?_;rw [show (#[Value.pointer (some p),.pointer (some q)]++(((Array.replicate 16 undef).setIfInBounds 3 (Value.nilIface)).setIfInBounds 0 (Value.nilIface)))=#[Value.pointer (some p),.pointer (some q),.nilIface,undef,undef,.nilIface,undef,undef,undef,undef,undef,undef,undef,undef,undef,undef,undef,undef] from by kernel_rfl];go_wp2_with fail
 cases c₀
 simp_all [bodyPostS,results,Tryz.results80]
theorem zqs (B b2 b3:Nat) (c:Int) (s:ByteArray) (older:List PanicEntry) (w:World) (a0 a1 a2:Value) (h2:Blk w b2 115 #[a0,a1]) (h3:Blk w b3 4 #[a2]) (n23:b2≠b3) (hB2:B<=b2) (hB3:B<=b3) :
  CallsD Tryz.prog 80 #[.pointer (some ⟨b2,0,none⟩),.pointer (some ⟨b3,0,none⟩)] (.panicking ({ v:=.iface 164 (.agg #[.int .i64 c,.string s]),recovered:=false }::older)) w fun e u' w'=>
   e=.returned (.tuple #[])/\u' = .panicking ({ v:=.iface 164 (.agg #[.int .i64 c,.string s]),recovered:=true }::older)/\Blk w' b2 115 #[.int .i64 c,.string s]/\Blk w' b3 4 #[.bool true]/\Below B w w':=by
 have hta:∀w,(Instr.typeAssert (.iface 164 (.agg #[.int .i64 c,.string s])) 20 164 true).run Tryz.prog w=.ok (.tuple #[.agg #[.int .i64 c,.string s],.bool true]) w:=fun _=>by kernel_rfl
 obtain ⟨W0,e0,hb0,k0⟩:=al1 w #[.int .i64 c,.string s] 164;have hb2:=h2.lt;have hb3:=h3.lt;have g2:=h2.below hb0 hb2;have g3:=h3.below hb0 hb3;have x0:W0.cell? ⟨b2,0,none⟩=some a0:=g2.cell 0;have x1:W0.cell? ⟨b2,1,none⟩=some a1:=g2.cell 1;have f0:=g2.frozen 0;have f1:=g2.frozen 1;have y0:W0.cell? ⟨w.heap.size,0,none⟩=some (.int .i64 c):=k0.cell 0;have y1:W0.cell? ⟨w.heap.size,1,none⟩=some (.string s):=k0.cell 1;have j2:Blk ((W0.setCell ⟨b2,0,none⟩ (.int .i64 c)).setCell ⟨b2,1,none⟩ (.string s)) b2 115 #[.int .i64 c,.string s]:=(g2.set_ 0 (.int .i64 c)).set_ 1 (.string s);have j3:=(g3.far (p:=⟨b2,0,none⟩) (show b3≠b2 by omega) (.int .i64 c)).far (p:=⟨b2,1,none⟩) (show b3≠b2 by omega) (.string s);have z0:((W0.setCell ⟨b2,0,none⟩ (.int .i64 c)).setCell ⟨b2,1,none⟩ (.string s)).cell? ⟨b3,0,none⟩=some a2:=j3.cell 0;have f3:=j3.frozen 0;have i2:=j2.far (p:=⟨b3,0,none⟩) (show b2≠b3 by omega) (.bool true);have i3:Blk (((W0.setCell ⟨b2,0,none⟩ (.int .i64 c)).setCell ⟨b2,1,none⟩ (.string s)).setCell ⟨b3,0,none⟩ (.bool true)) b3 4 #[.bool true]:=j3.set_ 0 (.bool true);have ib:Below B w (((W0.setCell ⟨b2,0,none⟩ (.int .i64 c)).setCell ⟨b2,1,none⟩ (.string s)).setCell ⟨b3,0,none⟩ (.bool true)):=(((hb0.mono (show B<=w.heap.size by omega)).setCell (p:=⟨b2,0,none⟩) hB2 _).setCell (p:=⟨b2,1,none⟩) hB2 _).setCell (p:=⟨b3,0,none⟩) hB3 _;have I2:=Zh i2;have I3:=Zh i3;have IB:=Zh ib;clear h2 h3 g2 g3 j2 j3 i2 i3 ib hb0 k0;refine callsD_of_wpS Tryz.func80 rfl fun c₀ cs hu=>?_
 apply wpS_seq
 apply wpS_region
 simp [wpOpsS,go_sem,recoverD,hu,Tryz.ntmps80,Exit.thenS];refine wpS_of_wp ?_;rw [show (#[Value.pointer (some ⟨b2,0,none⟩),.pointer (some ⟨b3,0,none⟩)]++(((Array.replicate 16 undef).setIfInBounds 3 (Value.iface 164 (.agg #[.int .i64 c,.string s]))).setIfInBounds 0 (Value.iface 164 (.agg #[.int .i64 c,.string s]))))=#[Value.pointer (some ⟨b2,0,none⟩),.pointer (some ⟨b3,0,none⟩),.iface 164 (.agg #[.int .i64 c,.string s]),undef,undef,.iface 164 (.agg #[.int .i64 c,.string s]),undef,undef,undef,undef,undef,undef,undef,undef,undef,undef,undef,undef] from by kernel_rfl];go_wp2_with fail
 exact ⟨rfl,_,rfl,.tuple #[],by simp [results,Tryz.results80],rfl,rfl,I2.out,I3.out,IB.out⟩
theorem KX.under {g B:Nat}{w w':World}(h:KX g w w') (hB:B<=g) (hs:B<=w.heap.size):Below B w w':=⟨h.os,h.tape,h.output,h.size,fun b hb=>h.block b (by omega) (by omega)⟩
theorem KX.base {g:Nat}{w w' w'':World}(h:KX g w w') (k:Below w.heap.size w' w''):KX g w w'':=⟨k.os.trans h.os,k.tape.trans h.tape,k.output.trans h.output,Yq h.size k.size,fun b hb hg=>(k.block b hb).trans (h.block b hb hg)⟩
theorem zqq.kx {g:Nat}{w w':World}{base:Nat}{v:Value}{xs:List ByteArray}(h:zqq w base v xs) (k:KX g w w') (hg:g<base):zqq w' base v xs:=by
 refine ⟨h.1,?_⟩;rcases h.2 with hn | ⟨g',cap,cur,hv,hbg,hg',rest⟩
 ·exact .inl hn
 ·exact .inr ⟨g',cap,cur,hv,hbg,(k.block g' (Yv.1 hg').1 (by omega)).trans hg',rest⟩
theorem zqq.sl_ {w:World}{base:Nat}{A:Option Addr}{n c:Nat}{xs:List ByteArray}(h:zqq w base (.slice A n c) xs):Sl 1 zql w A n c xs:=by
 obtain ⟨A',c',e,hs⟩:=h.sl;injection e with e1 e2 e3
 subst e1 e2 e3;exact hs
theorem zq7 {tmps:Array Value}{W:World}{g2 g3:Nat}{t2 t3:TypeId}{x0 x1 y0:Value}(h2:tmps.getD 2 undef=.pointer (some ⟨g2,0,none⟩)) (h3:tmps.getD 3 undef=.pointer (some ⟨g3,0,none⟩)) (b2:Blk W g2 t2 #[x0,x1]) (b3:Blk W g3 t3 #[y0]) :
  (results Tryz.f48 tmps).run Tryz.prog W=.ok (.tuple #[.agg #[x0,x1],y0]) W:=by
 have c0:W.cell? ⟨g2,0,none⟩=some x0:=b2.cell 0;have c1:W.cell? ⟨g2,1,none⟩=some x1:=b2.cell 1;have d0:W.cell? ⟨g3,0,none⟩=some y0:=b3.cell 0;have h2':tmps[2]?.getD undef=.pointer (some ⟨g2,0,none⟩):=by simpa using h2
 have h3':tmps[3]?.getD undef=.pointer (some ⟨g3,0,none⟩):=by simpa using h3
 simp [results,Tryz.results48,h2',h3',go_sem,c0,c1,d0]
theorem zsF {tmps:Array Value}{i:Nat}{v:Value}(h2:i≠2) (h3:i≠3):results Tryz.f48 (tmps.setIfInBounds i v)=results Tryz.f48 tmps:=by
 simp [results,Tryz.results48,Array.getElem?_setIfInBounds,h2,h3]
theorem zsT {tmps:Array Value}{i:Nat}{v:Value}(h2:i≠2) (h3:i≠3) {R:Ending->World->Prop}:∀ (ds:List Deferred) (u:FrameMode) (w:World),Leaves Tryz.prog Tryz.f48 (tmps.setIfInBounds i v) R ds u w->Leaves Tryz.prog Tryz.f48 tmps R ds u w:=by
 intro ds
 induction ds with
 | nil=>
  intro u w h;cases u with
  | returning=>unfold Leaves at h ⊢;rwa [zsF h2 h3] at h
  | panicking c=>exact h
  | run=>exact h
 | cons d ds ih=>
  intro u w h;unfold Leaves at h ⊢;obtain ⟨hu,fv,cap,f,args,e1,e2,hc⟩:=h;refine ⟨hu,fv,cap,f,args,e1,e2,hc.mono ?_⟩;intro e u' w' hh;cases e with
  | returned v=>exact ih _ _ hh
  | panicked c=>exact ih _ _ hh
  | outgrown=>exact hh
theorem zqe {i:Nat}{v:Value}(h2:i≠2) (h3:i≠3) {R:Ending->World->Prop}{c:List PanicEntry}{a:Act}{w:World}(h:bodyPostD Tryz.prog Tryz.f48 R (.panic c) (a.put (some i) v) w):bodyPostD Tryz.prog Tryz.f48 R (.panic c) a w:=zsT h2 h3 _ _ _ h
def zwW (p:Pb) (w:World) (e:Ending) (w':World):Prop:=∃ (c:Int) (s:ByteArray) (t:Bool),e=.returned (.tuple #[.agg #[.int .i64 c,.string s],.bool t])/\(t=false->zq1 p)/\Below w.heap.size w w'
theorem ztH (F:Nat->Prop) (d:Nat) (us:List Value) (p:Pb) (w:World) (h:RPb F d w us p) (hx:pbP p=true) (hF:∀b,F b->b<w.heap.size) :
  Calls Tryz.prog 48 #[.agg us.toArray] w (zwW p w):=by
 have hmf:∀ (fn:Fn) (first cap:Array Value) (w:World),(Instr.makeFunc fn first cap).run Tryz.prog w=.ok (.func fn first cap) w:=fun _ _ _ _=>rfl
 have HPG:=Zh (fun W (hb:Below w.heap.size w W)=>zvK F d us p W (zqf F d _ _ _ _ h hb) hx (fun b hb'=>Yh (hF b hb') hb.size));obtain ⟨A,n,c,B,m,q,C,mm,kk,rfl,hS1,hS2,hS3,hA0,hB0⟩:=h;unfold pbP at hx;simp only [Yi,Xa,List.all_eq_true] at hx;obtain ⟨⟨⟨⟨⟨⟨⟨⟨h1,h2⟩,h3⟩,h4⟩,h5⟩,h6⟩,h7⟩,h8⟩,h9⟩:=hx;have hl1:=hS1.len;have hl2:=hS2.len;have hl3:=hS3.len;have hc1:=hS1.cap;have hc2:=hS2.cap;have hc3:=hS3.cap;have hm1:=hS1.max;have hm2:=hS2.max;have hm3:=hS3.max;have g1:1<=n/\n<=4:=by omega
 have g2:m<=4:=by omega
 have g3:1<=mm/\mm<=8:=by omega
 obtain ⟨W0,e0,hb0,k0,k1,k2⟩:=al3 w #[.slice A n c,.slice B m q,.slice C mm kk,.int .i64 p.n,.int .i64 p.d] 27 #[.int .i64 0,.string ⟨#[]⟩] 115 #[.bool false] 4;obtain ⟨q0,q1,q2,q3,q4⟩:=zq2 k0;have hs0:=k2.lt;have HS1:=Zh hS1;have HS2:=Zh hS2;have HS3:=Zh hS3;have HF:=Zh hF;have H6:=Zh h6;have H7:=Zh h7;have H8:=Zh h8;have HBn:=Zh hB0;have HB0:=Zh hb0;have K0:=Zh k0;have K1:=Zh k1;have K2:=Zh k2;clear hS1 hS2 hS3 hF h1 h2 h3 h4 h5 h6 h7 h8 h9 hA0 hB0 hb0 k0 k1 k2
 go_enter_defers Tryz.func48,Tryz.ntmps48
 go_wp2_with fail
 clear q0 q1 q2 q3 q4 e0;refine (HPG.out _ HB0.out).mono ?_;rintro e w1 ⟨rfl,hb1⟩
 have HB01:=Zh (zAA HB0.out hb1);replace K0:=Zh (K0.out.below hb1 K0.out.lt);replace K1:=Zh (K1.out.below hb1 K1.out.lt);replace K2:=Zh (K2.out.below hb1 K2.out.lt);have hs1:=hb1.size;clear hb1 HPG HB0;obtain ⟨W1,e1,hb2,kX⟩:=al1 w1 #[.slice none 0 0,.slice none 0 0,.slice none 0 0] 168;have hX:=kX.lt;have hwX:w.heap.size+1+1<w1.heap.size:=K2.out.lt;have HB1:=Zh (zAA HB01.out hb2);replace K0:=Zh (K0.out.below hb2 K0.out.lt);replace K1:=Zh (K1.out.below hb2 K1.out.lt);replace K2:=Zh (K2.out.below hb2 K2.out.lt);have KX0:=Zh kX;have hs2:w1.heap.size+1<=W1.heap.size:=by rw [<- e1];simp
 generalize hXe:w1.heap.size=X at *;obtain ⟨q0,q1,q2,q3,q4⟩:=zq2 K0.out;clear hb2 kX HB01
 go_wp2_with (go_at_call 81;refine (zqo true 1 ⟨#[]⟩ w1).mono ?_;rintro e w' ⟨h,hw'⟩;obtain rfl:=hw'.symm;rcases h with ⟨h,_⟩ | ⟨_,rfl⟩;cases h)
 clear q0 q1 q2 q3 q4 e1
 go_loopw [22] (fun i wr=>∃ (j:Nat) (v:Value),j<=n/\i=.int .i64 j/\Hid (KX X W1 wr)/\Hid (Blk wr X 168 #[v,.slice none 0 0,.slice none 0 0])/\Hid (zqq wr W1.heap.size v ((p.states.map Dc.s).take j))) (fun i _=>n - (intOf i).toNat)
 case atStart=>exact ⟨0,_,Nat.zero_le _,rfl,KX.refl _ _,KX0.out,zqq.nil _ _⟩
 case round=>
  obtain ⟨j,v,hj,rfl,HK,HX,HO⟩:=hrel;have hKs:=HK.out.size;have HB:=Zh (HB1.out.trans (HK.out.under (B:=w.heap.size) (by omega) (by omega)));have hlj:((p.states.map Dc.s).take j).length=j:=by simp;omega
  obtain ⟨Av1,cv1,hv,hSv⟩:=HO.out.sl;rw [hlj] at hv hSv;subst hv;by_cases hlt:j<n
  ·obtain ⟨b,off,y,vs,rfl,hbl,hy,hlk,hRy,hc⟩:=HS1.out.get hlt
   have hRr:vs=zqb y:=hRy;subst hRr;have q0:=(HB.out.cell (p:=⟨b,off+j*5,none⟩) hbl).trans (hc 0 _ rfl);have q1:=(HB.out.cell (p:=⟨b,off+j*5+1,none⟩) hbl).trans (hc 1 _ rfl);have q2:=(HB.out.cell (p:=⟨b,off+j*5+2,none⟩) hbl).trans (hc 2 _ rfl);have q3:=(HB.out.cell (p:=⟨b,off+j*5+3,none⟩) hbl).trans (hc 3 _ rfl);have q4:=(HB.out.cell (p:=⟨b,off+j*5+4,none⟩) hbl).trans (hc 4 _ rfl);simp only [zqb] at hc hlk;obtain ⟨W2,e2,hb1,k1⟩:=al1 wr #[.string y.s,.int .i64 y.a,.int .i64 y.b,.int .i64 y.c,.int .i64 y.d] 94;have r0:W2.cell? ⟨wr.heap.size,0,none⟩=some (.string y.s):=k1.cell 0;have x0:W2.cell? ⟨X,0,none⟩=some (.slice Av1 j cv1):=(HX.out.below hb1 HX.out.lt).cell 0;have hba:=zAE W2 (.cells #[.string y.s] 9);have hb12:=zAA hb1 hba;have HOa:=Zh (HO.out.below hb12);have HXa:=Zh (HX.out.below hb12 HX.out.lt);have HKa:=Zh (HK.out.trans (KX.of hb12));have hcn:(W2.alloc (.cells #[.string y.s] 9)).cell? ⟨W2.heap.size,0,none⟩=some (.string y.s):=(Blk.new W2 9 #[.string y.s]).cell 0;have hsa:=hba.size;have hsb:=hb1.size;have HY:=Zh hy;clear hRy hc hlk hy hb1 hba hb12 k1
   go_wp2_with (at_builtin;go_loud (refine zqa rfl _ _ rfl W1.heap.size (.slice Av1 _ cv1) _ rfl HOa.out ⟨W2.heap.size,0,none⟩ 1 y.s rfl hcn (by rw [hlj];omega) (by omega) ?_))
   intro A' c' w3 hO3 hb3
   try rw [hlj] at hO3
   have hx3:=HXa.out.below hb3 (by omega);have x3:w3.cell? ⟨X,0,none⟩=some (.slice Av1 j cv1):=hx3.cell 0;have f3:=hx3.frozen 0;have HX3:=Zh (hx3.set_ 0 (.slice A' (j+1) c'));have HK3:=Zh ((HKa.out.base hb3).trans (KX.set 0 (.slice A' (j+1) c')));have HO3:=Zh (hO3.kx (KX.set (g:=X) 0 (.slice A' (j+1) c')) (by omega));clear hx3 hO3 hb3 q0 r0 x0;go_wp2_with fail
   refine ⟨⟨j+1,.slice A' (j+1) c',by omega,by go_num,HK3.out,HX3.out,?_⟩,by simp [intOf];omega⟩;have e:((p.states.map Dc.s).take (j+1))=((p.states.map Dc.s).take j)++[y.s]:=by rw [List.take_add_one,List.getElem?_map,HY.out];simp
   rw [e]
   first | exact HO3.out | (rw [List.append_assoc];exact HO3.out)
  ·obtain rfl:n=j:=by omega
   rw [Xd (by rw [Xe];omega)] at hSv;have HO1:Hid (zqq wr W1.heap.size (.slice Av1 n cv1) (p.states.map Dc.s)):=by have:=HO.out;rwa [Hid,<- Xd (i:=n) (l:=p.states.map Dc.s) (by rw [Xe];omega)]
   have x0:wr.cell? ⟨X,0,none⟩=some (.slice Av1 n cv1):=HX.out.cell 0;have HCl:=Zh (zsv Av1 n cv1 _ wr hSv (by omega));clear hSv;go_wp2_with fail
   clear x0;refine HCl.out.mono ?_;rintro e w4 ⟨v2,rfl,hO2,hb4⟩
   have hx4:=HX.out.below hb4 HX.out.lt;have x4:w4.cell? ⟨X,1,none⟩=some (.slice none 0 0):=hx4.cell 1;have f4:=hx4.frozen 1;obtain ⟨A4,c4,hv4,hS4⟩:=hO2.sl;rw [Xe,hl1] at hv4 hS4;subst hv4;have HX4:Hid (Blk (w4.setCell ⟨X,1,none⟩ (.slice A4 n c4)) X 168 #[.slice Av1 n cv1,.slice A4 n c4,.slice none 0 0]):=hx4.set_ 1 (.slice A4 n c4);have hk4:KX X wr (w4.setCell ⟨X,1,none⟩ (.slice A4 n c4)):=(KX.of hb4).trans (KX.set 1 _);have HK14:=Zh (HK.out.trans hk4);have HK4:=Zh hk4;have HO2:=Zh (hO2.kx (KX.set (g:=X) 1 (.slice A4 n c4)) (by have:=HX.out.lt;omega));have k04:=HK14.out.blk K0.out (by omega);obtain ⟨q0,q1,q2,q3,q4⟩:=zq2 k04;have HB2:=Zh (HB1.out.trans (HK.out.under (B:=w.heap.size) (by omega) (by omega)));have hlX:=HX.out.lt;have HKA:=Zh HK.out;clear hx4 hO2 hS4 hb4 hk4 k04 HCl;go_wp2_with fail
   clear q0 q1 q2 q3 q4 x4 f4;generalize wr=V2 at *
   go_loopw [41] (fun i wr=>∃ (j:Nat) (v:Value),j<=m/\i=.int .i64 j/\Hid (KX X V2 wr)/\Hid (Blk wr X 168 #[.slice Av1 n cv1,v,.slice none 0 0])/\Hid (zqq wr V2.heap.size v (p.states.map Dc.s++(p.params.map Dc.s).take j))) (fun i _=>m - (intOf i).toNat)
   case atStart=>exact ⟨0,.slice A4 n c4,Nat.zero_le _,rfl,HK4.out,HX4.out,by have:=HO2.out;simpa [Hid] using this⟩
   case round=>
    obtain ⟨j,v,hj,rfl,HK,HX,HO⟩:=hrel;have hKs:=HK.out.size;have HB:=Zh (HB2.out.trans (HK.out.under (B:=w.heap.size) (by omega) (by omega)));have hlj:(p.states.map Dc.s++(p.params.map Dc.s).take j).length=(n+j):=by simp;omega
    obtain ⟨Av2,cv2,hv,hSv⟩:=HO.out.sl;rw [hlj] at hv hSv;subst hv;by_cases hlt:j<m
    ·obtain ⟨b,off,y,vs,rfl,hbl,hy,hlk,hRy,hc⟩:=HS2.out.get hlt
     have hRr:vs=zqb y:=hRy;subst hRr;have q0:=(HB.out.cell (p:=⟨b,off+j*5,none⟩) hbl).trans (hc 0 _ rfl);have q1:=(HB.out.cell (p:=⟨b,off+j*5+1,none⟩) hbl).trans (hc 1 _ rfl);have q2:=(HB.out.cell (p:=⟨b,off+j*5+2,none⟩) hbl).trans (hc 2 _ rfl);have q3:=(HB.out.cell (p:=⟨b,off+j*5+3,none⟩) hbl).trans (hc 3 _ rfl);have q4:=(HB.out.cell (p:=⟨b,off+j*5+4,none⟩) hbl).trans (hc 4 _ rfl);simp only [zqb] at hc hlk;obtain ⟨W2,e2,hb1,k1⟩:=al1 wr #[.string y.s,.int .i64 y.a,.int .i64 y.b,.int .i64 y.c,.int .i64 y.d] 94;have r0:W2.cell? ⟨wr.heap.size,0,none⟩=some (.string y.s):=k1.cell 0;have x0:W2.cell? ⟨X,1,none⟩=some (.slice Av2 (n+j) cv2):=(HX.out.below hb1 HX.out.lt).cell 1;have hba:=zAE W2 (.cells #[.string y.s] 9);have hb12:=zAA hb1 hba;have HOa:=Zh (HO.out.below hb12);have HXa:=Zh (HX.out.below hb12 HX.out.lt);have HKa:=Zh (HK.out.trans (KX.of hb12));have hcn:(W2.alloc (.cells #[.string y.s] 9)).cell? ⟨W2.heap.size,0,none⟩=some (.string y.s):=(Blk.new W2 9 #[.string y.s]).cell 0;have hsa:=hba.size;have hsb:=hb1.size;have HY:=Zh hy;clear hRy hc hlk hy hb1 hba hb12 k1
     go_wp2_with (at_builtin;go_loud (refine zqa rfl _ _ rfl V2.heap.size (.slice Av2 _ cv2) _ rfl HOa.out ⟨W2.heap.size,0,none⟩ 1 y.s rfl hcn (by rw [hlj];omega) (by omega) ?_))
     intro A' c' w3 hO3 hb3
     try rw [hlj] at hO3
     have hx3:=HXa.out.below hb3 (by omega);have x3:w3.cell? ⟨X,1,none⟩=some (.slice Av2 (n+j) cv2):=hx3.cell 1;have f3:=hx3.frozen 1;have HX3:=Zh (hx3.set_ 1 (.slice A' ((n+j)+1) c'));have HK3:=Zh ((HKa.out.base hb3).trans (KX.set 1 (.slice A' ((n+j)+1) c')));have HO3:=Zh (hO3.kx (KX.set (g:=X) 1 (.slice A' ((n+j)+1) c')) (by omega));clear hx3 hO3 hb3 q0 r0 x0;go_wp2_with fail
     refine ⟨⟨j+1,.slice A' ((n+j)+1) c',by omega,by go_num,HK3.out,HX3.out,?_⟩,by simp [intOf];omega⟩;have e:(p.states.map Dc.s++(p.params.map Dc.s).take (j+1))=(p.states.map Dc.s++(p.params.map Dc.s).take j)++[y.s]:=by rw [List.take_add_one,List.getElem?_map,HY.out];simp
     rw [e]
     first | exact HO3.out | (rw [List.append_assoc];exact HO3.out)
    ·obtain rfl:m=j:=by omega
     have htk2:(p.params.map Dc.s).take m=p.params.map Dc.s:=Xd (by rw [Xe];omega);rw [htk2] at hSv;have HN2:Hid (zqq wr V2.heap.size (.slice Av2 (n+m) cv2) p.names):=by have:=HO.out;rw [htk2] at this;exact this
     have HM1:=Zh (HO1.out.kx HK.out (by omega));have HKB:=Zh (HKA.out.trans HK.out);have HXB:=Zh HX.out;have HB3:=Zh HB.out;have q2:wr.cell? ⟨w.heap.size,2,none⟩=some (.slice C mm kk):=(HKB.out.blk K0.out (by omega)).cell 2;have hV2:=HKA.out.size;clear hSv htk2;go_wp2_with fail
     clear q2;generalize wr=V3 at *
     go_loopw [56] (fun i wr=>∃ (j:Nat) (v:Value),j<=mm/\i=.int .i64 j/\Hid (KX X V3 wr)/\Hid (Blk wr X 168 #[.slice Av1 n cv1,.slice Av2 (n+m) cv2,v])/\Hid (zqq wr V3.heap.size v ((p.modes.map Md.s).take j))) (fun i _=>mm - (intOf i).toNat)
     case atStart=>exact ⟨0,_,Nat.zero_le _,rfl,KX.refl _ _,HXB.out,zqq.nil _ _⟩
     case round=>
      obtain ⟨j,v,hj,rfl,HK,HX,HO⟩:=hrel;have hKs:=HK.out.size;have HB:=Zh (HB3.out.trans (HK.out.under (B:=w.heap.size) (by omega) (by omega)));have hlj:((p.modes.map Md.s).take j).length=j:=by simp;omega
      obtain ⟨Av3,cv3,hv,hSv⟩:=HO.out.sl;rw [hlj] at hv hSv;subst hv;by_cases hlt:j<mm
      ·obtain ⟨b,off,y,vs,rfl,hbl,hy,hlk,hRy,hc⟩:=HS3.out.get hlt
       obtain ⟨A5,n5,c5,B5,m5,q5,rfl,-,-⟩:=hRy;have q0:=(HB.out.cell (p:=⟨b,off+j*3,none⟩) hbl).trans (hc 0 _ rfl);have q1:=(HB.out.cell (p:=⟨b,off+j*3+1,none⟩) hbl).trans (hc 1 _ rfl);have q2:=(HB.out.cell (p:=⟨b,off+j*3+2,none⟩) hbl).trans (hc 2 _ rfl);obtain ⟨W2,e2,hb1,k1⟩:=al1 wr #[.string y.s,.slice A5 n5 c5,.slice B5 m5 q5] 60;have r0:W2.cell? ⟨wr.heap.size,0,none⟩=some (.string y.s):=k1.cell 0;have x0:W2.cell? ⟨X,2,none⟩=some (.slice Av3 j cv3):=(HX.out.below hb1 HX.out.lt).cell 2;have hba:=zAE W2 (.cells #[.string y.s] 9);have hb12:=zAA hb1 hba;have HOa:=Zh (HO.out.below hb12);have HXa:=Zh (HX.out.below hb12 HX.out.lt);have HKa:=Zh (HK.out.trans (KX.of hb12));have hcn:(W2.alloc (.cells #[.string y.s] 9)).cell? ⟨W2.heap.size,0,none⟩=some (.string y.s):=(Blk.new W2 9 #[.string y.s]).cell 0;have hsa:=hba.size;have hsb:=hb1.size;have HY:=Zh hy;clear hc hlk hy hb1 hba hb12 k1
       go_wp2_with (at_builtin;go_loud (refine zqa rfl _ _ rfl V3.heap.size (.slice Av3 _ cv3) _ rfl HOa.out ⟨W2.heap.size,0,none⟩ 1 y.s rfl hcn (by rw [hlj];omega) (by omega) ?_))
       intro A' c' w3 hO3 hb3
       try rw [hlj] at hO3
       have hx3:=HXa.out.below hb3 (by omega);have x3:w3.cell? ⟨X,2,none⟩=some (.slice Av3 j cv3):=hx3.cell 2;have f3:=hx3.frozen 2;have HX3:=Zh (hx3.set_ 2 (.slice A' (j+1) c'));have HK3:=Zh ((HKa.out.base hb3).trans (KX.set 2 (.slice A' (j+1) c')));have HO3:=Zh (hO3.kx (KX.set (g:=X) 2 (.slice A' (j+1) c')) (by omega));clear hx3 hO3 hb3 q0 r0 x0;go_wp2_with fail
       refine ⟨⟨j+1,.slice A' (j+1) c',by omega,by go_num,HK3.out,HX3.out,?_⟩,by simp [intOf];omega⟩;have e:((p.modes.map Md.s).take (j+1))=((p.modes.map Md.s).take j)++[y.s]:=by rw [List.take_add_one,List.getElem?_map,HY.out];simp
       rw [e]
       first | exact HO3.out | (rw [List.append_assoc];exact HO3.out)
      ·obtain rfl:mm=j:=by omega
       have htk3:(p.modes.map Md.s).take mm=p.modes.map Md.s:=Xd (by rw [Xe];omega);rw [htk3] at hSv;have hV3:=HKB.out.size;have hsl1:=(HM1.out.kx HK.out (by omega)).sl_;have hsl2:=(HN2.out.kx HK.out (by omega)).sl_;have HKW:=Zh (HKB.out.trans HK.out);have HLK:Hid (RLk wr X (p.states.map Dc.s) p.names (p.modes.map Md.s)):=⟨Av1,n,cv1,Av2,n+m,cv2,Av3,mm,cv3,HX.out,hsl1,hsl2,hSv⟩;have HOn1:=Zh (zso Av2 (n+m) cv2 _ wr hsl2);have HOn2:=Zh (fun W (hb:Below wr.heap.size wr W)=>zso Av3 mm cv3 _ W (hSv.next zqW hb));have x1:wr.cell? ⟨X,1,none⟩=some (.slice Av2 (n+m) cv2):=HX.out.cell 1;have hxl:=HX.out.lt;clear hSv hsl1 hsl2 htk3;go_wp2_with fail
       clear x1;refine HOn1.out.mono ?_;rintro e w5 ⟨hb5,h⟩
       have HKP:=Zh (HKW.out.trans (KX.of hb5));rcases h with ⟨c0,s0,rfl⟩ | ⟨rfl,hnd1⟩
       ·unfold zsf
        go_wp2_with fail
        refine leaves_cons (f:=80) (args:=#[.pointer (some ⟨w.heap.size+1,0,none⟩),.pointer (some ⟨w.heap.size+1+1,0,none⟩)]) (by simp) (by simp [go_sem]) ?_;refine (zqs w.heap.size (w.heap.size+1) (w.heap.size+1+1) c0 s0 [] _ _ _ _ (HKP.out.blk K1.out (by omega)) (HKP.out.blk K2.out (by omega)) (by omega) (by omega) (by omega)).mono ?_;rintro e u' w9 ⟨rfl,rfl,k2,k3,hb9⟩
        exact ⟨_,zq7 rfl rfl k2 k3,c0,s0,true,rfl,(fun h=>by cases h),(HB1.out.trans (HKP.out.under (by omega) (by omega))).trans hb9⟩
       have HND1:=Zh hnd1;have x2:w5.cell? ⟨X,2,none⟩=some (.slice Av3 mm cv3):=(HX.out.below hb5 HX.out.lt).cell 2;have HB5:=Zh hb5;clear hnd1 hb5 HOn1;go_wp2_with fail
       clear x2;refine (HOn2.out _ HB5.out).mono ?_;rintro e w6 ⟨hb6,h⟩
       have HB6:=Zh (zAA HB5.out hb6);replace HKP:=Zh (HKW.out.trans (KX.of HB6.out));rcases h with ⟨c0,s0,rfl⟩ | ⟨rfl,hnd2⟩
       ·unfold zsf
        go_wp2_with fail
        refine leaves_cons (f:=80) (args:=#[.pointer (some ⟨w.heap.size+1,0,none⟩),.pointer (some ⟨w.heap.size+1+1,0,none⟩)]) (by simp) (by simp [go_sem]) ?_;refine (zqs w.heap.size (w.heap.size+1) (w.heap.size+1+1) c0 s0 [] _ _ _ _ (HKP.out.blk K1.out (by omega)) (HKP.out.blk K2.out (by omega)) (by omega) (by omega) (by omega)).mono ?_;rintro e u' w9 ⟨rfl,rfl,k2,k3,hb9⟩
        exact ⟨_,zq7 rfl rfl k2 k3,c0,s0,true,rfl,(fun h=>by cases h),(HB1.out.trans (HKP.out.under (by omega) (by omega))).trans hb9⟩
       have HND2:=Zh hnd2;obtain ⟨q0,q1,q2,q3,q4⟩:=zq2 (HKP.out.blk K0.out (by omega));have HBP:=Zh (HB1.out.trans (HKP.out.under (B:=w.heap.size) (by omega) (by omega)));have hba:=zAE w6 (.cells #[.slice A n c,.slice B m q] 22);have HCc:=Zh (zsQ w6.heap.size n c m q A B p.states p.params _ (Blk.new w6 22 #[.slice A n c,.slice B m q]) (HS1.out.next zqZ (zAA HBP.out hba)) (HS2.out.next zqZ (zAA HBP.out hba)) g1 g2 HBn.out);have HBA:=Zh hba;clear hnd2 hb6 hba HOn2;go_wp2_with fail
       clear q0 q1 q2 q3 q4;refine HCc.out.mono ?_;rintro e w7 ⟨Cc,pc,rfl,hsc,hb7⟩
       have HB7:=Zh (zAA HBA.out hb7);have HK7:=Zh (HKP.out.trans (KX.of HB7.out));have HL7:=Zh (HLK.out.next (zAA HB6.out HB7.out));have HSC:=Zh hsc;have hcc:=hsc.cap;have hcm:=hsc.max;have hcl:=hsc.len;clear hsc hb7 HCc HKP;go_wp2_with fail
       go_loopw [81] (fun i wt=>∃j:Nat,j<=n+m/\i=.int .i64 j/\Hid (Below w7.heap.size w7 wt)/\Hid (∀ (z:Nat) (y:Dc),z<j->(p.states++p.params)[z]? = some y->y.a*y.d<=y.c*y.b)) (fun i _=>n+m - (intOf i).toNat)
       case atStart=>exact ⟨0,Nat.zero_le _,rfl,Yp _ _,fun z y h=>absurd h (by omega)⟩
       case round=>
        obtain ⟨j,hj,rfl,HBt,HJ⟩:=hrel;by_cases hlt:j<n+m
        ·obtain ⟨b,off,y,vs,rfl,hbl,hy,hlk,hRy,hc⟩:=HSC.out.get hlt
         have hRr:vs=zqb y:=hRy;subst hRr;have q0:=(HBt.out.cell (p:=⟨b,off+j*5,none⟩) hbl).trans (hc 0 _ rfl);have q1:=(HBt.out.cell (p:=⟨b,off+j*5+1,none⟩) hbl).trans (hc 1 _ rfl);have q2:=(HBt.out.cell (p:=⟨b,off+j*5+2,none⟩) hbl).trans (hc 2 _ rfl);have q3:=(HBt.out.cell (p:=⟨b,off+j*5+3,none⟩) hbl).trans (hc 3 _ rfl);have q4:=(HBt.out.cell (p:=⟨b,off+j*5+4,none⟩) hbl).trans (hc 4 _ rfl);have hdy:dcP y=true:=by
          rcases Yt.1 (Yk hy) with h | h
          ·exact H7.out y h
          ·exact H8.out y h
         unfold dcP at hdy;simp only [Yi] at hdy;obtain ⟨Wd,e2,hb1,k1⟩:=al1 wr #[.string y.s,.int .i64 y.a,.int .i64 y.b,.int .i64 y.c,.int .i64 y.d] 94;obtain ⟨r0,r1,r2,r3,r4⟩:=zq2 k1;have hbd:Below Wd.heap.size Wd Wd.drew:=zAR (Yp Wd.heap.size Wd) 1;have HCmp:=Zh (ztT y.a y.b y.c y.d hdy.2.1 hdy.2.2 Wd.drew);have HBd:=Zh (zAA HBt.out (zAA hb1 hbd));have KD:=Zh (k1.below hbd k1.lt);have HY:=Zh hy;have hsd:=hb1.size;clear hRy hc hlk hy hdy hb1 hbd k1;go_wp2_with fail
         clear q0 q1 q2 q3 q4 e2;refine wp_region_held_drew (S:=fun W=>W.cell? ⟨wr.heap.size,0,none⟩=some (.string y.s)/\W.cell? ⟨wr.heap.size,1,none⟩=some (.int .i64 y.a)/\W.cell? ⟨wr.heap.size,2,none⟩=some (.int .i64 y.b)/\W.cell? ⟨wr.heap.size,3,none⟩=some (.int .i64 y.c)/\W.cell? ⟨wr.heap.size,4,none⟩=some (.int .i64 y.d)) (by kernel_rfl) ⟨r0,r1,r2,r3,r4⟩ (fun hH=>?_);clear r0 r1 r2 r3 r4;refine tkh 0 hH ?_ (hQ:=fun _ _ _ h=>zqe (by decide) (by decide) h);refine tkh 1 hH ?_ (hQ:=fun _ _ _ h=>zqe (by decide) (by decide) h);refine tkc (C:=fun W=>W.cell? ⟨wr.heap.size,1,none⟩=some (.int .i64 y.a)/\W.cell? ⟨wr.heap.size,2,none⟩=some (.int .i64 y.b)) 2 (fun w h=>⟨h.2.1,h.2.2.1⟩) hH ?_ (hv:=by (rintro w ⟨hS1,hS2⟩;go_simp;try (with_reducible rfl))) (hQ:=fun _ _ _ h=>zqe (by decide) (by decide) h);refine tkh 3 hH ?_ (hQ:=fun _ _ _ h=>zqe (by decide) (by decide) h);refine tkh 4 hH ?_ (hQ:=fun _ _ _ h=>zqe (by decide) (by decide) h);refine tkc (C:=fun W=>W.cell? ⟨wr.heap.size,3,none⟩=some (.int .i64 y.c)/\W.cell? ⟨wr.heap.size,4,none⟩=some (.int .i64 y.d)) 5 (fun w h=>⟨h.2.2.2.1,h.2.2.2.2⟩) hH ?_ (hv:=by (rintro w ⟨hS1,hS2⟩;go_simp;try (with_reducible rfl))) (hQ:=fun _ _ _ h=>zqe (by decide) (by decide) h);refine tkh 8 hH ?_ (hQ:=fun _ _ _ h=>zqe (by decide) (by decide) h);refine tkc (C:=fun W=>W.cell? ⟨wr.heap.size,0,none⟩=some (.string y.s)) 9 (fun w h=>h.1) hH ?_ (hv:=by (intro w hS1;go_simp;try (with_reducible rfl))) (hQ:=fun _ _ _ h=>zqe (by decide) (by decide) h);simp only [Act.put,sT,sZ,sS];refine rdh 6 (fun K hK=>?_)
         go_simp
         refine HCmp.out.mono ?_;rintro e w8 ⟨r,rfl,hr,hb8⟩
         have hBw:=zAA HBd.out hb8;have HR:=Zh hr;have HBw:=Zh hBw;obtain ⟨r0,r1,r2,r3,r4⟩:=zq2 (KD.out.below hb8 KD.out.lt);have HNd:=Zh (zqo (decide (r<=0)) 2 y.s w8);clear hr hb8 hBw HCmp;go_wp2_with fail
         refine hK.out _ _ ⟨r0,r1,r2,r3,r4⟩ (fun hH=>?_);clear hK K;refine tkh 7 hH ?_ (hQ:=fun _ _ _ h=>zqe (by decide) (by decide) h);simp only [Act.put,sT,sZ,sS];refine rdh 10 (fun K hK=>?_)
         go_simp
         refine HNd.out.mono ?_;rintro e w' ⟨h,hw'⟩
         obtain rfl:=hw'.symm;have HKP:=Zh (HK7.out.trans (KX.of HBw.out));rcases h with ⟨ht,rfl⟩ | ⟨ht,rfl⟩
         ·unfold zsf
          go_wp2_with fail
          refine leaves_cons (f:=80) (args:=#[.pointer (some ⟨w.heap.size+1,0,none⟩),.pointer (some ⟨w.heap.size+1+1,0,none⟩)]) (by simp) (by simp [go_sem]) ?_;refine (zqs w.heap.size (w.heap.size+1) (w.heap.size+1+1) 2 y.s [] _ _ _ _ (HKP.out.blk K1.out (by omega)) (HKP.out.blk K2.out (by omega)) (by omega) (by omega) (by omega)).mono ?_;rintro e u' w9 ⟨rfl,rfl,k2,k3,hb9⟩
          exact ⟨_,zq7 rfl rfl k2 k3,2,y.s,true,rfl,(fun h=>by cases h),(HB1.out.trans (HKP.out.under (by omega) (by omega))).trans hb9⟩
         have hrle:r<=0:=by simpa using ht
         have HRL:=Zh (HR.out.1 hrle);clear ht hrle HNd HR;go_wp2_with fail
         refine hK.out _ _ ⟨r0,r1,r2,r3,r4⟩ (fun hH=>?_);clear hK K;refine wpAnyH_done (by kernel_rfl) ?_ _;go_wp2_with fail
         refine ⟨⟨j+1,by omega,by go_num,HBw.out,fun z y' hz hy'=>?_⟩,by simp [intOf];omega⟩;by_cases hzj:z<j
         ·exact HJ.out z y' hzj hy'
         ·obtain rfl:z=j:=by omega
          rw [HY.out] at hy';injection hy' with hy'
          rw [<- hy'];exact HRL.out
        ·have HRG:Hid (∀y∈p.states++p.params,y.a*y.d<=y.c*y.b):=fun y hy=>by
          obtain ⟨z,hz⟩:=List.mem_iff_getElem?.1 hy;exact HJ.out z y (by have:=(Yb.1 hz).1;omega) hz
         have HK8:=Zh (HK7.out.trans (KX.of HBt.out));have HL8:=Zh (HL7.out.next HBt.out);obtain ⟨q0,q1,q2,q3,q4⟩:=zq2 (HK8.out.blk K0.out (by omega));have HNd:=Zh (zqo (decide (0<p.n)) 2 ⟨#[]⟩ wr);go_wp2_with fail
         refine HNd.out.mono ?_;rintro e w' ⟨h,hw'⟩
         obtain rfl:=hw'.symm;rcases h with ⟨ht,rfl⟩ | ⟨ht,rfl⟩
         ·unfold zsf
          go_wp2_with fail
          refine leaves_cons (f:=80) (args:=#[.pointer (some ⟨w.heap.size+1,0,none⟩),.pointer (some ⟨w.heap.size+1+1,0,none⟩)]) (by simp) (by simp [go_sem]) ?_;refine (zqs w.heap.size (w.heap.size+1) (w.heap.size+1+1) 2 ⟨#[]⟩ [] _ _ _ _ (HK8.out.blk K1.out (by omega)) (HK8.out.blk K2.out (by omega)) (by omega) (by omega) (by omega)).mono ?_;rintro e u' w9 ⟨rfl,rfl,k2,k3,hb9⟩
          exact ⟨_,zq7 rfl rfl k2 k3,2,⟨#[]⟩,true,rfl,(fun h=>by cases h),(HB1.out.trans (HK8.out.under (by omega) (by omega))).trans hb9⟩
         have htime:0<p.n:=by simpa using ht
         clear ht HNd HJ HBt;go_wp2_with fail
         clear q0 q1 q2 q3 q4;generalize wr=V4 at *
         go_loopw [105] (fun i wt=>∃j:Nat,j<=mm/\i=.int .i64 j/\Hid (Below V4.heap.size V4 wt)/\Hid (∀ (z:Nat) (y:Md),z<j->p.modes[z]? = some y->ztF (p.states.map Dc.s) p.names (p.modes.map Md.s) y)) (fun i _=>mm - (intOf i).toNat)
         case atStart=>exact ⟨0,Nat.zero_le _,rfl,Yp _ _,fun z y h=>absurd h (by omega)⟩
         case round=>
          obtain ⟨j,hj,rfl,HBt,HJ⟩:=hrel;have HKt:=Zh (HK8.out.trans (KX.of HBt.out));have HB:=Zh (HB1.out.trans (HKt.out.under (B:=w.heap.size) (by omega) (by omega)));by_cases hlt:j<mm
          ·obtain ⟨b,off,y,vs,rfl,hbl,hy,hlk,hRy,hc⟩:=HS3.out.get hlt
           have hRr:=zqr F d _ _ _ _ hRy HB.out;obtain ⟨A5,n5,c5,B5,m5,q5,rfl,hm5,hm6⟩:=hRr;have q0:=(HB.out.cell (p:=⟨b,off+j*3,none⟩) hbl).trans (hc 0 _ rfl);have q1:=(HB.out.cell (p:=⟨b,off+j*3+1,none⟩) hbl).trans (hc 1 _ rfl);have q2:=(HB.out.cell (p:=⟨b,off+j*3+2,none⟩) hbl).trans (hc 2 _ rfl);obtain ⟨Wm,e2,hb1,k1⟩:=al1 wr #[.string y.s,.slice A5 n5 c5,.slice B5 m5 q5] 60;obtain ⟨r0,r1,r2⟩:=zrc k1;have HMc:=Zh (ztt F d [.string y.s,.slice A5 n5 c5,.slice B5 m5 q5] y Wm X _ _ _ (zqr F d _ _ _ _ ⟨A5,n5,c5,B5,m5,q5,rfl,hm5,hm6⟩ hb1) (H6.out y (Yk hy)) (fun b hb=>Yh (HF.out b hb) (zAA HB.out hb1).size) (HL8.out.next (zAA HBt.out hb1)));have HY:=Zh hy;have HBm:=Zh hb1;clear hRy hc hlk hy hb1 k1 hm5 hm6;go_wp2_with fail
           clear q0 q1 q2 r0 r1 r2 e2;refine HMc.out.mono ?_;rintro e w8 ⟨hb8,h⟩
           have HBn8:=Zh (zAA HBt.out (zAA HBm.out hb8));have HKP:=Zh (HK8.out.trans (KX.of HBn8.out));rcases h with ⟨c0,s0,rfl⟩ | ⟨rfl,hG⟩
           ·unfold zsf
            go_wp2_with fail
            refine leaves_cons (f:=80) (args:=#[.pointer (some ⟨w.heap.size+1,0,none⟩),.pointer (some ⟨w.heap.size+1+1,0,none⟩)]) (by simp) (by simp [go_sem]) ?_;refine (zqs w.heap.size (w.heap.size+1) (w.heap.size+1+1) c0 s0 [] _ _ _ _ (HKP.out.blk K1.out (by omega)) (HKP.out.blk K2.out (by omega)) (by omega) (by omega) (by omega)).mono ?_;rintro e u' w9 ⟨rfl,rfl,k2,k3,hb9⟩
            exact ⟨_,zq7 rfl rfl k2 k3,c0,s0,true,rfl,(fun h=>by cases h),(HB1.out.trans (HKP.out.under (by omega) (by omega))).trans hb9⟩
           have HG:=Zh hG;clear hG hb8 HMc;go_wp2_with fail
           refine ⟨⟨j+1,by omega,by go_num,HBn8.out,fun z y' hz hy'=>?_⟩,by simp [intOf];omega⟩;by_cases hzj:z<j
           ·exact HJ.out z y' hzj hy'
           ·obtain rfl:z=j:=by omega
            rw [HY.out] at hy';injection hy' with hy'
            rw [<- hy'];exact HG.out
          ·have HMO:Hid (∀y∈p.modes,ztF (p.states.map Dc.s) p.names (p.modes.map Md.s) y):=fun y hy=>by
            obtain ⟨z,hz⟩:=List.mem_iff_getElem?.1 hy;exact HJ.out z y (by have:=(Yb.1 hz).1;omega) hz
           have b2:=HKt.out.blk K1.out (by omega);have b3:=HKt.out.blk K2.out (by omega);have x0:wr.cell? ⟨w.heap.size+1,0,none⟩=some (.int .i64 0):=b2.cell 0;have x1:wr.cell? ⟨w.heap.size+1,1,none⟩=some (.string ⟨#[]⟩):=b2.cell 1;have f0:=b2.frozen 0;have f1:=b2.frozen 1;have j2:Blk ((wr.setCell ⟨w.heap.size+1,0,none⟩ (.int .i64 0)).setCell ⟨w.heap.size+1,1,none⟩ (.string ⟨#[]⟩)) (w.heap.size+1) 115 #[.int .i64 0,.string ⟨#[]⟩]:=(b2.set_ 0 (.int .i64 0)).set_ 1 (.string ⟨#[]⟩);have j3:=(b3.far (p:=⟨w.heap.size+1,0,none⟩) (show w.heap.size+1+1≠w.heap.size+1 by omega) (.int .i64 0)).far (p:=⟨w.heap.size+1,1,none⟩) (show w.heap.size+1+1≠w.heap.size+1 by omega) (.string ⟨#[]⟩);have z0:((wr.setCell ⟨w.heap.size+1,0,none⟩ (.int .i64 0)).setCell ⟨w.heap.size+1,1,none⟩ (.string ⟨#[]⟩)).cell? ⟨w.heap.size+1+1,0,none⟩=some (.bool false):=j3.cell 0;have f3:=j3.frozen 0;have I2:=Zh (j2.far (p:=⟨w.heap.size+1+1,0,none⟩) (show w.heap.size+1≠w.heap.size+1+1 by omega) (.bool false));have i3:Blk (((wr.setCell ⟨w.heap.size+1,0,none⟩ (.int .i64 0)).setCell ⟨w.heap.size+1,1,none⟩ (.string ⟨#[]⟩)).setCell ⟨w.heap.size+1+1,0,none⟩ (.bool false)) (w.heap.size+1+1) 4 #[.bool false]:=j3.set_ 0 (.bool false);have I3:=Zh i3;have IB:=Zh (((HB.out.setCell (p:=⟨w.heap.size+1,0,none⟩) (show w.heap.size<=w.heap.size+1 by omega) (.int .i64 0)).setCell (p:=⟨w.heap.size+1,1,none⟩) (show w.heap.size<=w.heap.size+1 by omega) (.string ⟨#[]⟩)).setCell (p:=⟨w.heap.size+1+1,0,none⟩) (show w.heap.size<=w.heap.size+1+1 by omega) (.bool false));clear b2 b3 j2 j3 i3;go_wp2_with fail
           refine leaves_cons (f:=80) (args:=#[.pointer (some ⟨w.heap.size+1,0,none⟩),.pointer (some ⟨w.heap.size+1+1,0,none⟩)]) (by simp) (by simp [go_sem]) ?_;refine (zsa _ _ _).mono ?_;rintro e u' w9 ⟨rfl,rfl,rfl⟩
           exact ⟨_,zq7 rfl rfl I2.out I3.out,0,⟨#[]⟩,false,rfl,(fun _=>⟨HND1.out,HND2.out,HRG.out,htime,HMO.out⟩),IB.out⟩
theorem ztA (F:Nat->Prop) (d:Nat) (us:List Value) (p:Pb) (w:World) (h:RPb F d w us p) (hx:pbP p=true) (hF:∀b,F b->b<w.heap.size) :
  Calls Tryz.prog 23 #[.agg us.toArray] w fun e w'=>∃t,e=.returned (.bool t)/\(t=true->zq1 p)/\Below w.heap.size w w':=by
 obtain ⟨A,n,c,B,m,q,C,mm,kk,rfl,hS⟩:=id h;obtain ⟨W0,e0,hb0,k0⟩:=al1 w #[.slice A n c,.slice B m q,.slice C mm kk,.int .i64 p.n,.int .i64 p.d] 27;obtain ⟨q0,q1,q2,q3,q4⟩:=zq2 k0;have HC:=Zh (ztH F d _ p W0 (zqf F d _ _ _ _ h hb0) hx (fun b hb=>Yh (hF b hb) hb0.size));have HB0:=Zh hb0;clear hS h hb0 k0;go_enter Tryz.func23,Tryz.ntmps23
 go_wp2_with fail
 clear q0 q1 q2 q3 q4 e0;refine HC.out.mono ?_;rintro e w1 ⟨c,s,t,rfl,ht,hb1⟩
 have HT:=Zh ht;have HB:=Zh (zAA HB0.out hb1);clear ht hb1;go_wp2_with fail
 go_ret;exact ⟨!t,rfl,fun h=>HT.out (by simpa using h),zAA HB.out (zAE _ _)⟩
def zBF {α:Type}(Q:Nat->α->Prop):PT (Option α)->Nat->Nat->Prop
 | .lf,_,_=>True
 | .nd v l r,st,s=>(∀a,v=some a->Q s a)/\zBF Q l (2*st) (s+st)/\zBF Q r (2*st) (s+2*st)
theorem zeM {α:Type}(d v:α) (l r:PT α) (n:Nat):PT.get d (.nd v l r) n=(Bool.rec (Bool.rec (PT.get d r (Nat.sub (Nat.div n 2) 1)) (PT.get d l (Nat.div n 2)) (Nat.beq (Nat.land n 1) 1)) v (Nat.beq n 0):α):=rfl
theorem zEp {α:Type}{Q:Nat->α->Prop}:∀ {T:PT (Option α)}{st s:Nat},zBF Q T st s->∀ (n:Nat) (a:α),PT.get none T n=some a->Q (s+st*n) a
 | .lf,_,_,_,n,a,h=>by cases h
 | .nd v l r,st,s,⟨h1,h2,h3⟩,n,a,h=>by
  rw [zeM] at h;cases h0:Nat.beq n 0
  ·rw [h0] at h
   have hn:=Xl h0;dsimp only at h;have hland:Nat.land n 1=n%2:=Nat.and_one_is_mod n;rw [hland] at h;cases hb:Nat.beq (n%2) 1
   ·rw [hb] at h
    have hb:=Xl hb;have:=zEp h3 _ _ h;have e:s+2*st+2*st*(Nat.sub (Nat.div n 2) 1)=s+st*n:=by
     have e1:n=2*(Nat.sub (Nat.div n 2) 1)+2:=by
      show n=2*(n / 2 - 1)+2
      omega
     generalize Nat.sub (Nat.div n 2) 1=k at e1 ⊢;subst e1;rw [Nat.mul_add,Nat.mul_comm 2 st,Yz];omega
    rwa [e] at this
   ·rw [hb] at h
    have hb:=Yg hb;have:=zEp h2 _ _ h;have e:s+st+2*st*(Nat.div n 2)=s+st*n:=by
     have e1:n=2*(Nat.div n 2)+1:=by
      show n=2*(n / 2)+1
      omega
     generalize Nat.div n 2=k at e1 ⊢;subst e1;rw [Nat.mul_add,Nat.mul_one,Nat.mul_comm 2 st,Yz];omega
    rwa [e] at this
  ·rw [h0] at h
   have hn:=Yg h0;subst hn;have:=h1 a h
   rwa [Nat.mul_zero,Nat.add_zero]
theorem zAg {α:Type}{Q:Nat->α->Prop}{a:α}{s:Nat}(h:Q s a):∀b,some a=some b->Q s b:=fun b e=>by injection e with e;subst e;exact h
theorem zAO {α:Type}{Q:Nat->α->Prop}{s:Nat}:∀b:α,none=some b->Q s b:=fun b e=>by cases e
def zVy {α:Type}(q:Nat->α->Bool):PT (Option α)->Nat->Nat->Bool
 | .lf,_,_=>true
 | .nd v l r,st,s=>(match v with | some a=>q s a | none=>true) && (zVy q l (2*st) (s+st) && zVy q r (2*st) (s+2*st))
theorem zNa {α:Type}{Q:Nat->α->Prop}{q:Nat->α->Bool}(hq:∀s a,q s a=true->Q s a):∀ {T:PT (Option α)}{st s:Nat},zVy q T st s=true->zBF Q T st s
 | .lf,_,_,_=>trivial
 | .nd v l r,st,s,h=>by
  unfold zVy at h;simp only [Yi] at h;obtain ⟨h1,h2,h3⟩:=h;refine ⟨fun a e=>?_,zNa hq h2,zNa hq h3⟩;subst e;exact hq s a h1
def zS3 (x:AV) (v:Value):Bool:=
 match x,v with
 | .i k n,.int k' n'=>Nat.beq (kc k) (kc k') && eqI n n'
 | .b t,.bool t'=>t == t'
 | .v (.string s),.string s'=>s.data.toList == s'.data.toList
 | .v (.slice none 0 0),.slice none 0 0=>true
 | .v (.pointer none),.pointer none=>true
 | .v (.map none),.map none=>true
 | .v .nilFunc,.nilFunc=>true
 | .v .nilIface,.nilIface=>true
 | _,_=>false
theorem zOm {x:AV}{v:Value}(h:zS3 x v=true):(∀ι fz w,Rel ι fz w x v)/\zFv v=true:=by
 unfold zS3 at h
 split at h
 ·simp only [Yi] at h
  rw [zDl] at h;rw [zFx h.1,of_decide_eq_true h.2];exact ⟨fun _ _ _=>.i _ _,rfl⟩
 ·have:=eq_of_beq h
  subst this;exact ⟨fun _ _ _=>.b _,rfl⟩
 ·rename_i s s'
  have:s.data.toList=s'.data.toList:=by simpa using h
  have h2:s.data=s'.data:=Array.ext' this;have:s=s':=by cases s;cases s';simp_all
  subst this;exact ⟨fun _ _ _=>.v _,rfl⟩
 ·exact ⟨fun _ _ _=>.v _,rfl⟩
 ·exact ⟨fun _ _ _=>.v _,rfl⟩
 ·exact ⟨fun _ _ _=>.v _,rfl⟩
 ·exact ⟨fun _ _ _=>.v _,rfl⟩
 ·exact ⟨fun _ _ _=>.v _,rfl⟩
 ·cases h
def zL9:List AV->List Value->Bool
 | [],[]=>true
 | x::xs,v::vs=>zS3 x v && zL9 xs vs
 | _,_=>false
theorem zIA:∀ {xs:List AV}{vs:List Value},zL9 xs vs=true->∀ι fz w,zA5 ι fz w true xs vs
 | [],[],_=>fun _ _ _=>.nil _
 | [],_::_,h=>by cases h
 | _::_,[],h=>by cases h
 | x::xs,v::vs,h=>by
  unfold zL9 at h;simp only [Yi] at h;obtain ⟨h1,h2⟩:=zOm h.1;exact fun ι fz w=>.cons _ _ _ _ _ (h1 ι fz w) (fun _=>h2) (zIA h.2 ι fz w)
def zId (P:Program):List (Nat×Nat×Bool)->List Field->Bool
 | [],[]=>true
 | p::ps,f::fs=>(match P.info? f.type,P.underlying f.type with
  | some i,some du=>Nat.beq p.1 f.offset && Nat.beq p.2.1 i.size && (p.2.2 == zBZ du)
  | _,_=>false) && zId P ps fs
 | _,_=>false
theorem zHu {P:Program}:∀ {ps:List (Nat×Nat×Bool)}{fs:List Field},zId P ps fs=true->
  ps.length=fs.length/\∀ (j:Nat) (f:Field),fs[j]? = some f->∃i du,P.info? f.type=some i/\P.underlying f.type=some du/\ps[j]? = some (f.offset,i.size,zBZ du)
 | [],[],_=>⟨rfl,fun j f h=>by simp at h⟩
 | [],_::_,h=>by cases h
 | _::_,[],h=>by cases h
 | p::ps,f::fs,h=>by
  unfold zId at h;simp only [Yi] at h;obtain ⟨h1,h2⟩:=h;obtain ⟨h3,h4⟩:=zHu h2;refine ⟨by simp [h3],fun j g hj=>?_⟩;cases j with
  | zero=>
   simp at hj;subst hj
   split at h1
   ·rename_i i du e1 e2
    simp only [Yi] at h1;obtain ⟨⟨h5,h6⟩,h7⟩:=h1;refine ⟨i,du,e1,e2,?_⟩;have h5:=Yg h5;have h6:=Yg h6;have h7:=eq_of_beq h7;rw [<- h5,<- h6,<- h7];rfl
   ·cases h1
  | succ j=>simpa using h4 j g (by simpa using hj)
def tcB (P:Program) (d:TypeDesc) (c:TC):Bool:=
 match c,d with
 | .other,d=>!zBZ d
 | .bool,.bool=>true
 | .int k,.int k'=>Nat.beq (kc k) (kc k')
 | .str,.string=>true
 | .ptr,.pointer _=>true
 | .fnc,.func _ _ _=>true
 | .ptrM _,.pointer _=>true
 | .slice e,.slice e'=>Nat.beq e e'
 | .arr n e,.array n' e'=>Nat.beq n n' && Nat.beq e e'
 | .map k e,.map k' e'=>Nat.beq k k' && Nat.beq e e'
 | .struct fs,.struct fields=>zId P fs fields.toList
 | _,_=>false
theorem zVk {P:Program}{d:TypeDesc}{c:TC}(h:tcB P d c=true):zGS P d c:=by
 unfold tcB at h
 split at h
 ·simpa [zGS] using h
 ·rfl
 ·rw [zFx h];rfl
 ·rfl
 ·exact ⟨_,rfl⟩
 ·exact ⟨_,_,_,rfl⟩
 ·exact ⟨_,rfl⟩
 ·rw [Yg h];rfl
 ·simp only [Yi] at h
  rw [Yg h.1,Yg h.2];rfl
 ·simp only [Yi] at h
  rw [Yg h.1,Yg h.2];rfl
 ·rename_i fs fields
  obtain ⟨h1,h2⟩:=zHu h;exact ⟨fields,rfl,by rw [h1,Array.length_toList],fun j f hj=>h2 j f (by simpa using hj)⟩
 ·cases h
def zDM (P:Program):Nat->TypeId->Option Nat
 | 0,_=>none
 | d+1,t=>match P.underlying t,P.info? t with
  | some (.int _),some i=>if Nat.beq i.size 1 then some 1 else none
  | some (.struct fields),some i=>match leafEnd (zDM P d) fields.toList 0 with
   | some e=>if !P.stoodInHeld t && Nat.beq i.size e then some i.size else none
   | none=>none
  | _,_=>none
where
 leafEnd (L:TypeId->Option Nat):List Field->Nat->Option Nat
  | [],o=>some o
  | f::fs,o=>match L f.type with
   | some s=>if Nat.beq f.offset o && !(f.name == "_") then leafEnd L fs (o+s) else none
   | none=>none
theorem zH2 {L:TypeId->Option Nat}{M:TypeId->Nat->Prop}(hL:∀t s,L t=some s->M t s):∀ {fs:List Field}{o e:Nat},zDM.leafEnd L fs o=some e->zFO M fs o e
 | [],o,e,h=>by cases h;rfl
 | f::fs,o,e,h=>by
  unfold zDM.leafEnd at h
  split at h
  ·rename_i s hs
   split at h
   ·rename_i hc
    simp only [Yi,Bool.not_eq_true'] at hc;exact ⟨Yg hc.1,by simpa using hc.2,s,hL _ _ hs,zH2 hL h⟩
   ·cases h
  ·cases h
theorem zG1 {P:Program}:∀ {d:Nat}{t:TypeId}{s:Nat},zDM P d t=some s->zHW P d t s
 | 0,t,s,h=>by cases h
 | d+1,t,s,h=>by
  unfold zDM at h
  split at h
  ·rename_i k i h1 h2
   split at h
   ·rename_i hc
    injection h with h
    subst h;exact .inl ⟨k,i,h1,h2,Yg hc,rfl⟩
   ·cases h
  ·rename_i fields i h1 h2
   split at h
   ·rename_i e he
    split at h
    ·rename_i hc
     injection h with h
     subst h;simp only [Yi,Bool.not_eq_true'] at hc;obtain ⟨h3,h4⟩:=hc;rw [<- Yg h4] at he;exact .inr ⟨fields,i,h1,h3,h2,rfl,zH2 (L:=zDM P d) (M:=zHW P d) (fun t s h=>zG1 h) he⟩
    ·cases h
   ·cases h
  ·cases h
def zhI (z:Value):Bool:=match z with | .agg _=>true | _=>false
def msB (i:TypeInfo) (c:TC):Bool:=match c with
 | .ptrM ms=>ms.all fun p=>match i.methods.find? (·.name == p.1) with
  | some m=>m.path.isEmpty && (match m.func with | some (f,true)=>Nat.beq f p.2 | _=>false)
  | none=>false
 | _=>true
theorem zrz {name:String}{f:Nat}:∀ {ms:List (String×Nat)},zs1 name ms=some f->(name,f)∈ms
 | [],h=>by cases h
 | p::ms,h=>by
  change (Bool.rec (zs1 name ms) (some p.2) (p.1 == name):Option Nat)=some f at h
  cases hb:p.1 == name
  ·rw [hb] at h;exact List.mem_cons_of_mem _ (zrz h)
  ·rw [hb] at h
   injection h with h
   have:=eq_of_beq hb;subst h this;exact List.mem_cons_self
theorem zv0 {i:TypeInfo}{c:TC}(h:msB i c=true):∀ms,c=.ptrM ms->∀name f,zs1 name ms=some f->∃m,i.methods.find? (·.name == name)=some m/\m.path=#[]/\m.func=some (f,true):=by
 rintro ms rfl name f hf
 have:=List.all_eq_true.1 h _ (zrz hf);dsimp only at this
 split at this
 ·rename_i m hm
  simp only [Yi] at this;obtain ⟨h1,h2⟩:=this;refine ⟨m,hm,by simpa using h1,?_⟩
  split at h2
  ·rename_i g hg
   rw [hg,Yg h2]
  ·cases h2
 ·cases this
def tiB (P:Program) (t:Nat) (ti:TI):Bool:=
 match P.info? t,P.underlying t with
 | some i,some d=>(match i.zero with
  | some z=>Nat.beq i.size ti.size && Nat.beq i.bytes ti.bytes && zL9 ti.zero z.cells.toList && Nat.beq ti.zero.length ti.size && (zhI z == zBZ d) && tcB P d ti.c && msB i ti.c
  | none=>false) && (!ti.eq || (!P.eqGuardType P.depth t && (match d with | .struct _=>true | _=>false) && (match zDM P 9 t with | some s=>Nat.beq s ti.size | none=>false)))
 | _,_=>false
theorem zVl {P:Program}{t:Nat}{ti:TI}(h:tiB P t ti=true):zMV P t ti:=by
 unfold tiB at h
 split at h
 ·rename_i i d h1 h2
  simp only [Yi] at h;obtain ⟨h3,h4⟩:=h
  split at h3
  ·rename_i z hz
   simp only [Yi] at h3;obtain ⟨⟨⟨⟨⟨⟨g1,g2⟩,g3⟩,g4⟩,g5⟩,g6⟩,g7⟩:=h3;have g5:=eq_of_beq g5;refine ⟨⟨i,z,d,h1,Yg g1,Yg g2,hz,zIA g3,Yg g4,fun h=>?_,fun h=>?_,h2,zVk g6⟩,fun he=>?_,fun ms hm name f hf=>(zv0 g7 ms hm name f hf).elim fun m h=>⟨i,m,h1,h⟩⟩
   ·rw [h] at g5
    cases z <;> first | rfl | cases g5
   ·rw [h] at g5
    cases z <;> first | rfl | cases g5
   ·rw [he] at h4
    simp only [Bool.not_true,Bool.false_or,Yi,Bool.not_eq_true'] at h4;obtain ⟨⟨k1,k2⟩,k3⟩:=h4;refine ⟨k1,?_,?_⟩
    ·split at k2
     ·exact ⟨_,h2⟩
     ·cases k2
    ·split at k3
     ·rename_i s hs
      rw [<- Yg k3];exact zG1 hs
     ·cases k3
  ·cases h3
 ·cases h
theorem zP9 (E:Env) (ops:Array Oper) (draw:Bool):zR0 E 0 (fun call=>zHa E call ops draw) ops draw:=by
 intro call T H n x T' H' n' h;obtain ⟨es,rfl,hl⟩:=zKD h;exact ⟨ops,.inl rfl,_,h,(zG7 _ _ (by rw [Yu];omega)).symm⟩
theorem ztB (E:Env) (σ π:List Nat) (ops:Array Oper) (h:zty σ π ops=true):zR0 E 0 (fun call=>zHa E call (zsD σ π ops) true) ops true:=by
 intro call T H n x T' H' n' h1;obtain ⟨es,rfl,hl⟩:=zKD h1;exact ⟨_,.inr ⟨rfl,ztz σ π h⟩,_,h1,(zG7 _ _ (by rw [Yu];omega)).symm⟩
def zwp (id:Nat) (pm:List (Nat×List Nat×List Nat)):Option (List Nat×List Nat):=List.rec none (fun p _ ih=>Bool.rec ih (some p.2) (Nat.beq p.1 id)) pm
def zzY (E:Env) (pm:List (Nat×List Nat×List Nat)) (id:Nat) (ops:Array Oper):Bool->CC E 0
 | false=>.reg id ops false (fun call=>zHa E call ops false) (zP9 E ops false)
 | true=>match zwp id pm with
  | none=>.reg id ops true (fun call=>zHa E call ops true) (zP9 E ops true)
  | some p=>if h:zty p.1 p.2 ops=true then .reg id ops true (fun call=>zHa E call (zsD p.1 p.2 ops) true) (ztB E p.1 p.2 ops h) else .bad .skip
def zq4 (E:Env) (pm:List (Nat×List Nat×List Nat)):Code->CC E 0
 | .skip=>.skip
 | .ret=>.ret
 | .exit i=>.exit i
 | .label l=>.label l
 | .seq a b=>.seq (zq4 E pm a) (zq4 E pm b)
 | .cond c a b=>.cond c (zq4 E pm a) (zq4 E pm b)
 | .block id b=>.block id (zq4 E pm b)
 | .loop b=>.loop (zq4 E pm b)
 | .scope b=>.scope (zq4 E pm b)
 | .region id ops draw=>zzY E pm id ops draw
 | c=>.bad c
def zx3 (E:Env) (pm:List (Nat×List Nat×List Nat)) (f:Func):CC E 0:=Option.rec (.bad .skip) (zq4 E pm) f.body
def zB4 (E:Env):Code->CC E 0
 | .skip=>.skip
 | .ret=>.ret
 | .exit i=>.exit i
 | .label l=>.label l
 | .seq a b=>.seq (zB4 E a) (zB4 E b)
 | .cond c a b=>.cond c (zB4 E a) (zB4 E b)
 | .block id b=>.block id (zB4 E b)
 | .loop b=>.loop (zB4 E b)
 | .scope b=>.scope (zB4 E b)
 | .region id ops draw=>.reg id ops draw (fun call=>zHa E call ops draw) (zP9 E ops draw)
 | c=>.bad c
def zj0 (E:Env) (f:Func):CC E 0:=Option.rec (.bad .skip) (zB4 E) f.body
def rv (p:RV) (k:AV->Hp->Nat->Res):Res:=RV.rec .fail k p
def ps (p:Option Hp) (k:Hp->Res):Res:=Option.rec .fail k p
end Go.Proofs.YtngjhigieajkmaaGreatDoor
end
