/- Bundle 16: what the law's walk stands on: Y7, Y8, Y9, Y12, Y10, Y11. -/
import Derived.Maps.AppendAt
import Derived.Laws.AppendOwnNone
import Derived.Deep.CutRange
import Derived.Deep.RegionHeld
import Derived.Test.YtngjhigieajkmaaGreatDoorH12
import Derived.Test.YtngjhigieajkmaaGreatDoorH14
import Derived.Test.YtngjhigieajkmaaGreatDoorH15
set_option maxRecDepth 100000
set_option maxHeartbeats 20000000
set_option linter.all false
noncomputable section
namespace Go.Proofs.YtngjhigieajkmaaGreatDoor
open Go.RowKit Pl
theorem zsP {α:Type}{p:Nat->α->Prop}:∀n,(∀i,i<n->∃d,p i d)->∃xs:List α,xs.length=n/\∀ (j:Nat) (x:α),xs[j]? = some x->p j x:=by
 intro n
 induction n with
 | zero=>intro _;exact ⟨[],rfl,fun j x h=>by simp at h⟩
 | succ n ih=>
  intro h;obtain ⟨xs,h1,h2⟩:=ih (fun i hi=>h i (by omega));obtain ⟨d,hd⟩:=h n (by omega);refine ⟨xs++[d],by simp [h1],fun j x hx=>?_⟩;by_cases hj:j<xs.length
  ·rw [Yw hj] at hx;exact h2 j x hx
  ·have hlt:=(Yb.1 hx).1
   simp at hlt;obtain rfl:j=n:=by omega
   rw [Yx (by omega),h1,Nat.sub_self] at hx;simp at hx;subst hx;exact hd
section
variable {α:Type}{k:Nat}{R:World->List Value->α->Prop}{w:World}{A:Option Addr}{n c:Nat}{xs:List α}
theorem zsH (hk:0<k) (h:Sl k R w A n c xs):∃gs:List (List Value),gs.length=n/\(∀g∈gs,g.length=k)/\(∀ (j:Nat) (g:List Value) (y:α),gs[j]? = some g->xs[j]? = some y->R w g y)/\
  ∀ad,A=some ad->∀ (p:Nat) (u:Value),gs.flatten[p]? = some u->w.cell? (ad.add p)=some u:=by
 obtain ⟨gs,h1,h2⟩:=zsP (α:=List Value) (p:=fun j g=>g.length=k/\(∀y,xs[j]? = some y->R w g y)/\∃b off,A=some ⟨b,off,none⟩/\∀ (i:Nat) (v:Value),g[i]? = some v->w.cell? ⟨b,off+j*k+i,none⟩=some v) n (fun j hj=>by
  obtain ⟨b,off,y,vs,e,_,hy,hl,hR,hc⟩:=h.get hj;exact ⟨vs,hl,fun y' hy'=>by rw [hy] at hy';injection hy' with hy';rw [<- hy'];exact hR,b,off,e,hc⟩)
 have hk':∀g∈gs,g.length=k:=fun g hg=>by
  obtain ⟨j,hj⟩:=List.mem_iff_getElem?.1 hg;exact (h2 j g hj).1
 refine ⟨gs,h1,hk',fun j g y hg hy=>(h2 j g hg).2.1 y hy,fun ad ha p u hp=>?_⟩;have hpl:=(Yb.1 hp).1;rw [zGp hk'] at hpl;have hq:p / k<gs.length:=(Nat.div_lt_iff_lt_mul hk).2 hpl;have hg:gs[p / k]? = some gs[p / k]:=Yo hq;obtain ⟨g1,_,b,off,e,g3⟩:=h2 _ _ hg;rw [ha] at e;injection e with e
 subst e;have hm:p%k<gs[p / k].length:=by rw [g1];exact Nat.mod_lt _ hk
 have h5:=zEb hk' (p / k) (p%k) _ _ hg (Yo hm);have hpk:p / k*k+p%k=p:=by rw [Nat.mul_comm];exact Nat.div_add_mod p k
 rw [hpk,hp] at h5;injection h5 with h5
 have:=g3 (p%k) _ (Yo hm);rw [Nat.add_assoc,hpk] at this;rw [ztg,h5];exact this
end
theorem zKf.nil0 {e:TypeId}{k:Nat}{w:World}{base:Nat}{A:Option Addr}{n c:Nat}{fs:List (List Value)}(h:zKf e k w base (.slice A n c) fs):A=none->c=0:=by
 rintro rfl
 rcases h.own.2 with ⟨e,_⟩ | ⟨g,cap,cur,e,_⟩
 ·injection e
 ·injection e with e;cases e
theorem zqY {P:Program}{α:Type}{R:World->List Value->α->Prop}{w:World}{ops:Array Oper}{rest:List Oper}{o:Oper}{a:Act}{Q:Exit->Act->World->Prop}(hgd:o.guard=none) (s x:Operand) (t:TypeId)
  (ho:o.op=.call { callee:=.builtin .append,args:=#[s,x],argTypes:=#[t,t] })
  (e:TypeId) (k bytes:Nat) (z:Value) (hinfo:(P.info? e).map (fun i=>(i.zero,i.size,i.bytes))=some (some z,k,bytes)) (hz:z.cells.size=k) (hk:0<k) (hby:bytes<=1000) (ht:P.underlying t=some (.slice e))
  (base:Nat) (v:Value) (fs:List (List Value)) (hs:a.eval s=v) (hown:zKf e k w base v fs) (A:Option Addr) (m c:Nat) (ys:List α) (h1:∀W vs x,R W vs x->∀u∈vs,u.oneCell' = true)
  (hx:a.eval x=.slice A m c) (hS:Sl k R w A m c ys) (hA:A=none->c=0) (hlen:fs.length+m<=1000000) (hbase:base<=w.heap.size)
  (h:∀v' w' gs,zKf e k w' base v' (fs++gs)->gs.length=m->(∀ (j:Nat) (g:List Value) (y:α),gs[j]? = some g->ys[j]? = some y->R w g y)->Below base w w'->wpList P ops Q rest (a.put o.dst v') w'):wpList P ops Q (o::rest) a w:=by
 obtain ⟨i,hi,hz',hsize,hb'⟩:=info_parts hinfo;cases A with
 | none=>
  have hc:=hA rfl;subst hc;have hm:m=0:=by have:=hS.cap;omega
  subst hm;exact wpList_append_own_none hgd s x t ho base e i k ht hi v fs.length fs.flatten hs hown.own hx (h v w [] (by rw [List.append_nil];exact hown) rfl (fun j g y hg=>by simp at hg) (Yp _ _))
 | some ad=>
  obtain ⟨gs,g1,g2,g3,g4⟩:=zsH hk hS;have hl:gs.flatten.length=m*k:=by rw [zGp g2,g1]
  refine wpList_append_own_at _ hgd s x t ho base e i z k bytes ht hi hz' hsize hb' hz hk v fs.length fs.flatten hs hown.own ad m c gs.flatten hx hl (g4 ad rfl) (fun u hu=>?_) (by simp only [maxLen];omega) ?_ hbase (fun v' w' h2 h3 _ h5=>?_)
  ·obtain ⟨g,hg,hu⟩:=List.mem_flatten.1 hu
   obtain ⟨j,hj⟩:=List.mem_iff_getElem?.1 hg;have hjl:=(Yb.1 hj).1;have hyl:j<ys.length:=by rw [hS.len,<- g1];exact hjl
   exact h1 _ _ _ (g3 j g _ hj (Yo hyl)) u hu
  ·exact Yq (Nat.mul_le_mul (show fs.length+m<=1000000 by omega) hby) (by omega)
  ·refine h v' w' gs ⟨?_,?_⟩ g1 g3 ((Yp _ _).grown h3 hbase (fun k hk=>(hown.lt k hk).1))
   ·rw [Yu,List.flatten_append,g1];exact h2
   ·intro f' hf
    rcases Yt.1 hf with hf | hf
    ·exact hown.len f' hf
    ·exact g2 f' hf
theorem zKf.made {e:TypeId}{k:Nat}{w:World}{base g:Nat}{f:List Value}(h:Blk w g e f.toArray) (hf:f.length=k) (hb:base<=g):zKf e k w base (.slice (some ⟨g,0,none⟩) 1 1) [f]:=
 ⟨⟨by simp [hf],.inr ⟨g,1,_,rfl,hb,h,Ya _,by simp [maxLen],by simp [hf],by simp [hf,Xd]⟩⟩,by simp [hf]⟩
theorem zKf.made0 {e:TypeId}{k:Nat}{w:World}{base g:Nat}(h:Blk w g e #[]) (hb:base<=g):zKf e k w base (.slice (some ⟨g,0,none⟩) 0 0) []:=
 ⟨⟨by simp,.inr ⟨g,0,_,rfl,hb,h,Ya _,by simp [maxLen],by simp,by simp⟩⟩,by simp⟩
theorem RX.stay {F:Nat->Prop}{base:Nat}{w w':World}{d:Nat}{us:List Value}{x:Xn}(h:RX F d w us x) (hb:Below base w w') (hF:∀b,F b->b<base):RX F d w' us x:=
 h.keep (fun _ h=>h) hb.size (fun b off v hFb hc=>(hb.cell (p:=⟨b,off,none⟩) (hF b hFb)).trans hc) _ _ _
theorem zs2:∀ (d:Nat) (F:Nat->Prop) (us:List Value) (x:Xn) (w:World),RX F d w us x->(∀b,F b->b<w.heap.size)->x.flat.length<=1000->
  Calls Tryz.prog 277 #[.agg us.toArray] w fun e w'=>∃A n c,e=.returned (.slice A n c)/\Sl 6 (RX F d) w' A n c x.flat/\(A=none->c=0)/\Below w.heap.size w w':=by
 intro d
 induction d with
 | zero=>intro F us x w hx;exact hx.elim
 | succ d ih=>
  intro F us x w hx hF hlen;have HX:=Zh hx;obtain ⟨A,m,c,d',hd,rfl,hS,hA⟩:=hx.open;obtain rfl:d=d':=by omega
  have hm:=hS.cap;have hm2:=hS.max;have hml:m<=1000:=by
   have h1:=zrr x.l;rw [Xn.flat_eq,List.length_cons] at hlen;have:=hS.len;omega
  have HS:=Zh hS;have HIH:=Zh ih;have HF:=Zh hF;have HLn:=Zh hlen;obtain ⟨W0,e0,hb0,k0⟩:=al1 w #[.int .i64 x.k,.int .i64 x.a,.int .i64 x.b,.string x.s,.int .i64 x.n,.slice A m c] 82;obtain ⟨W1,e1,hb1,k1⟩:=al1 W0 #[.int .i64 x.k,.int .i64 x.a,.int .i64 x.b,.string x.s,.int .i64 x.n,.slice A m c] 82;have hs0:W0.heap.size=w.heap.size+1:=by rw [<- e0];simp
  have k01:=k0.below hb1 k0.lt;obtain ⟨p0,p1,p2,p3,p4,p5⟩:=zqv k0;obtain ⟨q0,q1,q2,q3,q4,q5⟩:=zqv k01;have K0:=Zh k01;have HB1:=Zh (zAA hb0 hb1);have HO:=Zh (zKf.made (k:=6) (base:=w.heap.size+1) k1 rfl (by omega));have hlt0:w.heap.size<W1.heap.size:=k01.lt;clear hx hS hA ih hF hlen k0 k1 hb0 hb1 k01;go_enter Tryz.func277,Tryz.ntmps277
  go_wp2_with fail
  clear p0 p1 p2 p3 p4 p5 q0 q1 q2 q3 q4 q5 e1
  try rw [hs0] at HO
  go_loopw [3,4] (fun vo vi wr=>∃ (j:Nat) (fs:List (List Value)),j<=m/\vi=.int .i64 j/\Hid (zKf 82 6 wr (w.heap.size+1) vo fs)/\Hid (Below (w.heap.size+1) W1 wr)/\Hid (fs.length=1+(Xn.flats (x.l.take j)).length)/\
   Hid (∀ (i:Nat) (f:List Value) (y:Xn),fs[i]? = some f->(x::Xn.flats (x.l.take j))[i]? = some y->RX F (d+1) wr f y)) (fun _ vi _=>m - (intOf vi).toNat)
  case atStart=>exact ⟨0,_,Nat.zero_le _,rfl,HO.out,Yp _ _,by simp [Hid,Xn.flats],fun i f y hf hy=>by
   have hi:i=0:=by have:=(Yb.1 hf).1;simpa using this
   subst hi;simp at hf hy;subst hf hy;exact zqX _ _ _ _ _ _ HX.out HB1.out⟩
  case round=>
   obtain ⟨j,fs,hj,rfl,HOr,HW,HFl,HR⟩:=hrel;have hBw:Below w.heap.size w wr:=HB1.out.trans (HW.out.mono (by omega));have hsz:=HW.out.size;obtain ⟨q0,q1,q2,q3,q4,q5⟩:=zqv (K0.out.below HW.out (by omega));by_cases hlt:j<m
   ·obtain ⟨b,off,y,vs,rfl,hbl,hy,hlk,hRy,hc⟩:=HS.out.get hlt
    have hyl:(Xn.flats (x.l.take j)).length+y.flat.length<=(Xn.flats x.l).length:=by
     have h1:(Xn.flats (x.l.take (j+1)++x.l.drop (j+1))).length=(Xn.flats x.l).length:=by rw [List.take_append_drop]
     rw [zqk,Yu,zqi hy,Yu] at h1;omega
    have hxl:x.flat.length=1+(Xn.flats x.l).length:=by rw [Xn.flat_eq,List.length_cons];omega
    have hln:=HLn.out;have hfl:=HFl.out;have hcall:=HIH.out F vs y wr (zqX F d _ _ _ _ hRy hBw) (fun b hb=>Yh (HF.out b hb) hBw.size) (by omega);obtain ⟨v0,v1,v2,v3,v4,v5,rfl⟩:=zrj hlk;have r0:=(hBw.cell (p:=⟨b,off+j*6,none⟩) hbl).trans (hc 0 _ rfl);have r1:=(hBw.cell (p:=⟨b,off+j*6+1,none⟩) hbl).trans (hc 1 _ rfl);have r2:=(hBw.cell (p:=⟨b,off+j*6+2,none⟩) hbl).trans (hc 2 _ rfl);have r3:=(hBw.cell (p:=⟨b,off+j*6+3,none⟩) hbl).trans (hc 3 _ rfl);have r4:=(hBw.cell (p:=⟨b,off+j*6+4,none⟩) hbl).trans (hc 4 _ rfl);have r5:=(hBw.cell (p:=⟨b,off+j*6+5,none⟩) hbl).trans (hc 5 _ rfl);have HP:=Zh hcall;have HY:=Zh hy;have hgl:(y.flat.length:Nat)+fs.length<=1001:=by omega
    clear hc hRy hlk hcall hBw hy hyl hxl hln hfl;go_wp2_with fail
    clear r0 r1 r2 r3 r4 r5 q0 q1 q2 q3 q4 q5;refine HP.out.mono ?_;rintro e w2 ⟨A2,n2,c2,rfl,hS2,hA2,hb2⟩
    have HO2:=Zh (HOr.out.next hb2);have HS2:=Zh hS2;have HB2:=Zh hb2;have hn2:=hS2.len;have hs2:=hb2.size;clear hS2 hb2
    go_wp2_with (at_builtin;go_loud (refine zqY rfl _ _ 80 rfl 82 6 72 _ zvr rfl (by decide) (by decide) Tryz.underlying80 (w.heap.size+1) _ fs rfl HO2.out A2 _ c2 y.flat zuK rfl HS2.out hA2 (by omega) (by omega) ?_))
    intro v3 w3 gs ho3 hg3 hr3 hb3;have HO3:=Zh ho3;have HW3:=Zh ((HW.out.trans (HB2.out.mono (by omega))).trans hb3);have HR3:Hid (∀ (i:Nat) (f:List Value) (z:Xn),(fs++gs)[i]? = some f->(x::Xn.flats (x.l.take (j+1)))[i]? = some z->RX F (d+1) w3 f z):=fun i f z hf hz=>by
     have hF1:∀b,F b->b<w.heap.size+1:=fun b hb=>by have:=HF.out b hb;omega
     rw [zqi HY.out,<- List.cons_append] at hz;have hlf:fs.length=(x::Xn.flats (x.l.take j)).length:=by rw [HFl.out,List.length_cons];omega
     by_cases hi:i<fs.length
     ·rw [Yw hi] at hf
      rw [Yw (by omega)] at hz;exact (zqX _ _ _ _ _ _ (HR.out i f z hf hz) HB2.out).stay hb3 hF1
     ·rw [Yx (by omega)] at hf
      rw [Yx (by omega),<- hlf] at hz;exact RX.stay (RX.up _ _ _ (hr3 _ f z hf hz)) hb3 hF1
    have HF3:Hid ((fs++gs).length=1+(Xn.flats (x.l.take (j+1))).length):=by
     rw [Hid,Yu,HFl.out,zqi HY.out,Yu,hg3,<- hn2];omega
    clear ho3 hg3 hr3 hb3;go_wp2_with fail
    exact ⟨⟨j+1,fs++gs,by omega,by go_num,HO3.out,HW3.out,HF3.out,HR3.out⟩,by simp [intOf];omega⟩
   ·obtain rfl:m=j:=by omega
    have htk:x.l.take m=x.l:=Xd (by rw [HS.out.len];exact Ya _);have hfx:x::Xn.flats x.l=x.flat:=(Xn.flat_eq x).symm;obtain ⟨A3,c3,hv,hS3⟩:=HOr.out.sl (R:=RX F (d+1)) (xs:=x.flat) (by rw [HFl.out,htk,<- hfx,List.length_cons];omega) (fun i f z hf hz=>HR.out i f z hf (by rw [htk,hfx];exact hz));subst hv;have HA3:=Zh HOr.out.nil0;have HS3:=Zh hS3;have HB3:=Zh hBw;clear hS3 hBw htk hfx;go_wp2_with fail
    go_ret;exact ⟨_,_,_,rfl,HS3.out,HA3.out,HB3.out⟩
theorem zrX:(Tryz.prog.info? 9).map (fun i=>(i.zero,i.size,i.bytes))=some (some (.string ⟨#[]⟩),1,16):=by kernel_rfl
theorem zqt:∀ (W:World) vs (x:ByteArray),zql W vs x->∀u∈vs,u.oneCell' = true:=by
 intro W vs x h u hu;unfold zql at h;subst h;simp at hu;subst hu;rfl
theorem zrG {fs:List (List Value)}{w:World}{xs:List ByteArray}(h:fs.length=xs.length) (hR:∀ (j:Nat) (g:List Value) (y:ByteArray),fs[j]? = some g->xs[j]? = some y->zql w g y):fs=xs.map fun x=>[.string x]:=by
 apply List.ext_getElem?
 intro j;by_cases hj:j<fs.length
 ·have h1:fs[j]? = some fs[j]:=Yo hj
  have h2:xs[j]? = some xs[j]:=Yo (by omega);have h3:fs[j]=[.string xs[j]]:=hR j _ _ h1 h2;rw [h1,List.getElem?_map,h2,h3];rfl
 ·rw [Yy (by omega),Yy (by rw [Xe];omega)]
theorem zsp {w:World}{base:Nat}{v:Value}{xs:List ByteArray}(h:zKf 9 1 w base v (xs.map fun x=>[.string x])):∃A c,v=.slice A xs.length c/\Sl 1 zql w A xs.length c xs/\(A=none->c=0)/\(∀ad,A=some ad->ad.spot=none):=by
 have hsp:∀A n c,v=.slice A n c->∀ad,A=some ad->ad.spot=none:=by
  rintro A n c rfl ad rfl
  rcases h.own.2 with ⟨e,_⟩ | ⟨g,cap,cur,e,_⟩
  ·injection e with e;cases e
  ·injection e with e;injection e with e;rw [e]
 obtain ⟨A,c,e,hs⟩:=h.sl (R:=zql) (xs:=xs) (by rw [Xe]) (fun j f x hf hx=>by
  rw [List.getElem?_map,hx] at hf;injection hf with hf
  rw [<- hf];rfl)
 rw [Xe] at e hs;subst e;exact ⟨A,c,rfl,hs,h.nil0,hsp A _ c rfl⟩
theorem Sl.cut {α:Type}{R:World->List Value->α->Prop}{w:World}{A:Option Addr}{n c:Nat}{xs:List α}(h:Sl 1 R w A n c xs) {j:Nat}(hj:j<=n):Sl 1 R w A j c (xs.take j):=
 ⟨by rw [Yr,h.len];omega,Yq hj h.cap,h.max,fun h0=>by
  obtain ⟨b,off,e,hb,hc⟩:=h.at_ (by omega);exact ⟨b,off,e,hb,fun i x hx=>hc i x (by
   have hi:i<j:=by have:=(Yb.1 hx).1;rw [Yr] at this;omega
   rwa [Xf hi] at hx)⟩⟩
theorem Sl.rest {α:Type}{R:World->List Value->α->Prop}{w:World}{b off n c:Nat}{xs:List α}(h:Sl 1 R w (some ⟨b,off,none⟩) n c xs) {j:Nat}(hj:j<=n):Sl 1 R w (some ⟨b,off+j,none⟩) (n - j) (c - j) (xs.drop j):=
 ⟨by rw [List.length_drop,h.len],by have:=h.cap;omega,by have:=h.max;omega,fun h0=>by
  obtain ⟨b',off',e,hb,hc⟩:=h.at_ (by omega);injection e with e
  injection e with e1 e2
  subst e1 e2;exact ⟨b,off+j,rfl,hb,fun i x hx=>by
   rw [List.getElem?_drop] at hx;obtain ⟨vs,h1,h2,h3⟩:=hc _ x hx;refine ⟨vs,h1,h2,fun q v hv=>?_⟩;have:=h3 q v hv
   rwa [show off+j+i*1+q=off+(j+i)*1+q by omega]⟩⟩
theorem slz {w:World}(A:Option Addr) (c:Nat) (hc:c<=9223372036854775807):Sl 1 zql w A 0 c []:=⟨rfl,Nat.zero_le _,hc,fun h=>absurd h (by omega)⟩
def zt8 (n:Nat) (xs:List ByteArray) (s:ByteArray) (w:World) (e:Ending) (w':World):Prop:=∃A' n' c' ys,e=.returned (.slice A' n' c')/\Sl 1 zql w' A' n' c' ys/\(A' = none->c' = 0)/\(∀ad,A' = some ad->ad.spot=none)/\n' <= n+1/\(∀z,z∈ys ↔ z∈xs\/z=s)/\Below w.heap.size w w'
theorem zt8.mk {n:Nat}{xs:List ByteArray}{s:ByteArray}{w w':World}{e:Ending}{A':Option Addr}{n' c':Nat}{ys:List ByteArray}(h1:e=.returned (.slice A' n' c')) (h2:Sl 1 zql w' A' n' c' ys) (h3:A' = none->c' = 0) (h4:∀ad,A' = some ad->ad.spot=none) (h5:n' <= n+1) (h6:∀z,z∈ys ↔ z∈xs\/z=s) (h7:Below w.heap.size w w'):zt8 n xs s w e w':=⟨A',n',c',ys,h1,h2,h3,h4,h5,h6,h7⟩
theorem zr3 (A:Option Addr) (n c:Nat) (xs:List ByteArray) (s:ByteArray) (w:World) (h:Sl 1 zql w A n c xs) (hA:A=none->c=0) (hp:∀ad,A=some ad->ad.spot=none) (hn:n<=900) :
  Calls Tryz.prog 278 #[.slice A n c,.string s] w (zt8 n xs s w):=by
 have hcap:=h.cap;have hmx:=h.max;have HS:=Zh h;have HL:=Zh h.len;have HA:=Zh hA;have HP:=Zh hp;clear h hA hp;go_enter Tryz.func278,Tryz.ntmps278
 go_wp2_with fail
 go_loopw [5] (fun i wr=>∃j:Nat,j<=n/\i=.int .i64 j/\wr=w) (fun i _=>n - (intOf i).toNat)
 case atStart=>exact ⟨0,Nat.zero_le _,rfl,rfl⟩
 case round=>
  obtain ⟨j,hj,rfl,hwr⟩:=hrel;obtain rfl:=hwr.symm;by_cases hlt:j<n
  ·obtain ⟨b,off,x,vs,rfl,hbl,hx,hk,hR,hc⟩:=HS.out.get hlt
   unfold zql at hR;subst hR;have q0:=hc 0 _ rfl;rw [Nat.mul_one,Nat.add_zero] at q0;have HX:=Zh hx;clear hx hc hk;have hl:=HL.out;obtain ⟨W1,e1,hb1,k1⟩:=al1 w #[] 9;have hs1:W1.heap.size=w.heap.size+1:=by rw [<- e1];simp
   have HO1:=Zh (zKf.made0 (k:=1) (base:=w.heap.size) k1 (Ya _));have HB1:=Zh hb1;have HS1:=Zh ((HS.out.cut hj).next zqW hb1);clear hb1 k1
   go_wp2_with (at_builtin;go_loud (refine zqY rfl _ _ 54 rfl 9 1 16 _ zrX rfl (by decide) (by decide) Tryz.underlying54 w.heap.size _ [] rfl HO1.out (some ⟨b,off,none⟩) _ c (xs.take j) zqt rfl HS1.out HA.out (by simp;omega) (by omega) ?_))
   ·clear q0
    exact ⟨⟨j+1,by omega,by go_num,by first | rfl | trivial⟩,by simp [intOf];omega⟩
   ·have he:=zrS (by assumption)
    go_ret;exact zt8.mk (ys:=xs) rfl HS.out HA.out HP.out (by omega) (fun z=>⟨.inl,fun h=>h.elim id fun h=>by rw [h,<- he];exact Yk HX.out⟩) (Yp _ _)
   intro v2 w2 gs ho2 hg2 hr2 hb2;have hgs:=zrG (by rw [hg2,Yr];omega) hr2
   try rw [List.nil_append] at ho2
   rw [hgs] at ho2;have HO2:=Zh ho2;have HB2:=Zh (HB1.out.trans hb2);have hs2:=hb2.size;clear ho2 hg2 hr2 hb2 hgs e1 HO1 HS1;obtain ⟨W3,e3,hb3,k3⟩:=al1 w2 #[.string s] 9;have HO3:=Zh (HO2.out.next hb3);have HS3:=Zh (zRp (xs:=[s]) k3 (by simp));have HB3:=Zh (zAA HB2.out hb3);have hs3:=hb3.size;have hlt:((xs.take j).map fun x=>[Value.string x]).length<=1000:=by simp;omega
   clear hb3 k3 HO2 HB2
   go_wp2_with (at_builtin;go_loud (refine zqY rfl _ _ 54 rfl 9 1 16 _ zrX rfl (by decide) (by decide) Tryz.underlying54 w.heap.size _ ((xs.take j).map fun x=>[.string x]) rfl HO3.out (some ⟨w2.heap.size,0,none⟩) _ 1 [s] zqt rfl HS3.out (fun h=>by cases h) (by simp;omega) (by omega) ?_))
   intro v4 w4 gs ho4 hg4 hr4 hb4;have hgs:=zrG (xs:=[s]) hg4 hr4;replace ho4:zKf 9 1 w4 w.heap.size v4 ((xs.take j++[s]).map fun x=>[Value.string x]):=by simpa [hgs,List.map_take] using ho4
   have HO4:=Zh ho4;have HB4:=Zh (HB3.out.trans hb4);have hs4:=hb4.size;clear ho4 hg4 hr4 hb4 hgs e3 HO3 HS3;have HS4:=Zh (HS.out.next zqW HB4.out);have HS5:=Zh (HS4.out.rest hj)
   try rw [Nat.sub_self] at HS5
   have hlt4:((xs.take j++[s]).map fun x=>[Value.string x]).length<=1001:=by simp;omega
   go_wp2_with (at_builtin;go_loud (refine zqY rfl _ _ 54 rfl 9 1 16 _ zrX rfl (by decide) (by decide) Tryz.underlying54 w.heap.size _ ((xs.take j++[s]).map fun x=>[.string x]) rfl HO4.out (some ⟨b,off+j,none⟩) _ (c - j) (xs.drop j) zqt rfl HS5.out (fun h=>by cases h) (by simp;omega) (by omega) ?_))
   intro v5 w5 gs ho5 hg5 hr5 hb5;have hgs:=zrG (xs:=xs.drop j) (by rw [hg5,List.length_drop];omega) (fun q g y h1 h2=>hr5 q g y h1 (by rw [List.getElem?_drop] at h2;exact h2));replace ho5:zKf 9 1 w5 w.heap.size v5 ((xs.take j++[s]++xs.drop j).map fun x=>[Value.string x]):=by simpa [hgs,List.map_take,List.map_drop] using ho5
   have HB5:=Zh (HB4.out.trans hb5);obtain ⟨A6,c6,rfl,h6,h7,h8⟩:=zsp ho5;have H6:=Zh h6;clear ho5 hg5 hr5 hb5 hgs h6;go_wp2_with fail
   go_ret;refine zt8.mk rfl H6.out h7 h8 (by simp;omega) (fun z=>?_) HB5.out;have hxd:z∈xs ↔ z∈xs.take j\/z∈xs.drop j:=by rw [<- Yt,List.take_append_drop]
   simp only [Yt,List.mem_singleton,hxd];constructor
   ·rintro ((h | h) | h)
    ·exact .inl (.inl h)
    ·exact .inr h
    ·exact .inl (.inr h)
   ·rintro ((h | h) | h)
    ·exact .inl (.inl h)
    ·exact .inr h
    ·exact .inl (.inr h)
  ·obtain rfl:j=n:=by omega
   cases A with
   | none=>
    have hc0:=HA.out rfl;subst hc0;obtain rfl:j=0:=by omega
    have hl:=HL.out;obtain rfl:xs=[]:=List.eq_nil_of_length_eq_zero hl;obtain ⟨W1,e1,hb1,k1⟩:=al1 w #[] 9;have hs1:W1.heap.size=w.heap.size+1:=by rw [<- e1];simp
    have HO1:=Zh (zKf.made0 (k:=1) (base:=w.heap.size) k1 (Ya _));have HB1:=Zh hb1;clear hb1 k1
    go_wp2_with (at_builtin;go_loud (refine zqY rfl _ _ 54 rfl 9 1 16 _ zrX rfl (by decide) (by decide) Tryz.underlying54 w.heap.size _ [] rfl HO1.out none _ 0 ([]:List ByteArray) zqt rfl (Sl.nil _) (fun _=>rfl) (by simp) (by omega) ?_))
    intro v2 w2 gs ho2 hg2 hb2;subst hg2;have HO2:=Zh ho2;have HB2:=Zh (HB1.out.trans hb2);have hs2:=hb2.size;clear ho2 hb2 e1 HO1;obtain ⟨W3,e3,hb3,k3⟩:=al1 w2 #[.string s] 9;have HO3:=Zh (HO2.out.next hb3);have HS3:=Zh (zRp (xs:=[s]) k3 (by simp));have HB3:=Zh (zAA HB2.out hb3);have hs3:=hb3.size;clear hb3 k3 HO2 HB2
    go_wp2_with (at_builtin;go_loud (refine zqY rfl _ _ 54 rfl 9 1 16 _ zrX rfl (by decide) (by decide) Tryz.underlying54 w.heap.size _ [] rfl HO3.out (some ⟨w2.heap.size,0,none⟩) _ 1 [s] zqt rfl HS3.out (fun h=>by cases h) (by simp) (by omega) ?_))
    intro v4 w4 gs ho4 hg4 hr4 hb4;have hgs:=zrG (xs:=[s]) hg4 hr4;rw [hgs] at ho4
    try rw [List.nil_append] at ho4
    have HO4:=Zh ho4;have HB4:=Zh (HB3.out.trans hb4);have hs4:=hb4.size;clear ho4 hg4 hr4 hb4 hgs e3 HO3 HS3
    go_wp2_with (at_builtin;go_loud (refine zqY rfl _ _ 54 rfl 9 1 16 _ zrX rfl (by decide) (by decide) Tryz.underlying54 w.heap.size _ (([s]:List ByteArray).map fun x=>[.string x]) rfl HO4.out none _ 0 ([]:List ByteArray) zqt rfl (Sl.nil _) (fun _=>rfl) (by simp) (by omega) ?_))
    intro v5 w5 gs ho5 hg5 hb5;subst hg5;replace ho5:zKf 9 1 w5 w.heap.size v5 (([s]:List ByteArray).map fun x=>[Value.string x]):=ho5;have HB5:=Zh (HB4.out.trans hb5);obtain ⟨A6,c6,rfl,h6,h7,h8⟩:=zsp ho5;have H6:=Zh h6;clear ho5 hb5 h6;go_wp2_with fail
    go_ret;exact zt8.mk rfl H6.out h7 h8 (by simp) (by simp) HB5.out
   | some ad=>
    obtain ⟨b,off,sp⟩:=ad;have hsp:sp=none:=HP.out _ rfl;subst hsp;have hl:=HL.out;obtain ⟨W1,e1,hb1,k1⟩:=al1 w #[] 9;have hs1:W1.heap.size=w.heap.size+1:=by rw [<- e1];simp
    have HO1:=Zh (zKf.made0 (k:=1) (base:=w.heap.size) k1 (Ya _));have HB1:=Zh hb1;have HS1:=Zh ((HS.out.cut hj).next zqW hb1);clear hb1 k1
    go_wp2_with (at_builtin;go_loud (refine zqY rfl _ _ 54 rfl 9 1 16 _ zrX rfl (by decide) (by decide) Tryz.underlying54 w.heap.size _ [] rfl HO1.out (some ⟨b,off,none⟩) _ c (xs.take j) zqt rfl HS1.out HA.out (by simp;omega) (by omega) ?_))
    intro v2 w2 gs ho2 hg2 hr2 hb2;have hgs:=zrG (by rw [hg2,Yr];omega) hr2
    try rw [List.nil_append] at ho2
    rw [hgs] at ho2;have HO2:=Zh ho2;have HB2:=Zh (HB1.out.trans hb2);have hs2:=hb2.size;clear ho2 hg2 hr2 hb2 hgs e1 HO1 HS1;obtain ⟨W3,e3,hb3,k3⟩:=al1 w2 #[.string s] 9;have HO3:=Zh (HO2.out.next hb3);have HS3:=Zh (zRp (xs:=[s]) k3 (by simp));have HB3:=Zh (zAA HB2.out hb3);have hs3:=hb3.size;have hlt:((xs.take j).map fun x=>[Value.string x]).length<=1000:=by simp;omega
    clear hb3 k3 HO2 HB2
    go_wp2_with (at_builtin;go_loud (refine zqY rfl _ _ 54 rfl 9 1 16 _ zrX rfl (by decide) (by decide) Tryz.underlying54 w.heap.size _ ((xs.take j).map fun x=>[.string x]) rfl HO3.out (some ⟨w2.heap.size,0,none⟩) _ 1 [s] zqt rfl HS3.out (fun h=>by cases h) (by simp;omega) (by omega) ?_))
    intro v4 w4 gs ho4 hg4 hr4 hb4;have hgs:=zrG (xs:=[s]) hg4 hr4;replace ho4:zKf 9 1 w4 w.heap.size v4 ((xs.take j++[s]).map fun x=>[Value.string x]):=by simpa [hgs,List.map_take] using ho4
    have HO4:=Zh ho4;have HB4:=Zh (HB3.out.trans hb4);have hs4:=hb4.size;clear ho4 hg4 hr4 hb4 hgs e3 HO3 HS3;have HS4:=Zh (HS.out.next zqW HB4.out);have hlt4:((xs.take j++[s]).map fun x=>[Value.string x]).length<=1001:=by simp;omega
    by_cases hcj:c=j
    ·have hcj:=hcj.symm
     subst hcj
     go_wp2_with (at_builtin;go_loud (refine zqY rfl _ _ 54 rfl 9 1 16 _ zrX rfl (by decide) (by decide) Tryz.underlying54 w.heap.size _ ((xs.take j++[s]).map fun x=>[.string x]) rfl HO4.out (some ⟨b,off,none⟩) _ 0 ([]:List ByteArray) zqt rfl (slz _ _ (by omega)) (fun h=>by cases h) (by simp;omega) (by omega) ?_))
     intro v5 w5 gs ho5 hg5 hb5;subst hg5;replace ho5:zKf 9 1 w5 w.heap.size v5 ((xs.take j++[s]).map fun x=>[Value.string x]):=by simpa [List.map_take] using ho5
     have HB5:=Zh (HB4.out.trans hb5);obtain ⟨A6,c6,rfl,h6,h7,h8⟩:=zsp ho5;have H6:=Zh h6;clear ho5 hb5 h6;go_wp2_with fail
     go_ret;exact zt8.mk rfl H6.out h7 h8 (by simp;omega) (fun z=>by rw [Xd (by omega)];simp) HB5.out
    ·have hcj2:j<c:=by omega
     go_wp2_with (at_builtin;go_loud (refine zqY rfl _ _ 54 rfl 9 1 16 _ zrX rfl (by decide) (by decide) Tryz.underlying54 w.heap.size _ ((xs.take j++[s]).map fun x=>[.string x]) rfl HO4.out (some ⟨b,off+j,none⟩) _ (c - j) ([]:List ByteArray) zqt rfl (slz _ _ (by omega)) (fun h=>by cases h) (by simp;omega) (by omega) ?_))
     intro v5 w5 gs ho5 hg5 hb5;subst hg5;replace ho5:zKf 9 1 w5 w.heap.size v5 ((xs.take j++[s]).map fun x=>[Value.string x]):=by simpa [List.map_take] using ho5
     have HB5:=Zh (HB4.out.trans hb5);obtain ⟨A6,c6,rfl,h6,h7,h8⟩:=zsp ho5;have H6:=Zh h6;clear ho5 hb5 h6;go_wp2_with fail
     go_ret;exact zt8.mk rfl H6.out h7 h8 (by simp;omega) (fun z=>by rw [Xd (by omega)];simp) HB5.out
theorem zsW (F:Nat->Prop) (d:Nat) (us:List Value) (x:Xn) (w:World) (hx:RX F d w us x) (hF:∀b,F b->b<w.heap.size) (hlen:x.flat.length<=800) :
  Calls Tryz.prog 199 #[.agg us.toArray] w fun e w'=>∃A n c ys,e=.returned (.slice A n c)/\Sl 1 zql w' A n c ys/\(∀z,z∈ys ↔ z∈x.vars)/\Below w.heap.size w w':=by
 obtain ⟨A,m,c,d',rfl,rfl,-,-⟩:=hx.open;obtain ⟨W0,e0,hb0,k0⟩:=al1 w #[.int .i64 x.k,.int .i64 x.a,.int .i64 x.b,.string x.s,.int .i64 x.n,.slice A m c] 82;obtain ⟨q0,q1,q2,q3,q4,q5⟩:=zqv k0;have HFl:=Zh (zs2 _ F _ x W0 (zqX _ _ _ _ _ _ hx hb0) (fun b hb=>Yh (hF b hb) hb0.size) (by omega));have HB0:=Zh hb0;have HLn:=Zh hlen;have HV:Hid (x.vars=(x.flat.filter fun y=>y.k == 2).map Xn.s):=rfl;clear hx hF k0 hb0 hlen;go_enter Tryz.func199,Tryz.ntmps199
 go_wp2_with fail
 clear e0 q0 q1 q2 q3 q4 q5;refine HFl.out.mono ?_;rintro e w1 ⟨A1,n1,c1,rfl,hS1,_,hb1⟩
 have HS1:=Zh hS1;have HB1:=Zh (zAA HB0.out hb1);have hc1:=hS1.cap;have hm1:=hS1.max;have hl1:=hS1.len;have hll:=HLn.out;clear hS1 hb1 HFl;go_wp2_with fail
 go_loopw [3,5] (fun vo vi wr=>∃ (j:Nat) (B:Option Addr) (n2 c2:Nat) (ys:List ByteArray),j<=n1/\n2<=j/\vo=.slice B n2 c2/\vi=.int .i64 j/\Hid (Sl 1 zql wr B n2 c2 ys)/\Hid (B=none->c2=0)/\Hid (∀ad,B=some ad->ad.spot=none)/\Hid (∀z,z∈ys ↔ z∈((x.flat.take j).filter fun y=>y.k == 2).map Xn.s)/\Hid (Below w1.heap.size w1 wr)) (fun _ vi _=>n1 - (intOf vi).toNat)
 case atStart=>exact ⟨0,none,0,0,[],Nat.zero_le _,Ya _,rfl,rfl,Sl.nil _,fun _=>rfl,(fun _ h=>by cases h),by simp [Hid],Yp _ _⟩
 case round=>
  obtain ⟨j,B,n2,c2,ys,hj,hn2,rfl,rfl,HY,HBn,HBs,HM,HB⟩:=hrel;by_cases hlt:j<n1
  ·obtain ⟨b,off,y,vs,rfl,hbl,hy,hlk,hRy,hc⟩:=HS1.out.get hlt
   obtain ⟨A5,m5,c5,d5,_,rfl,-,-⟩:=hRy.open;have r0:=(HB.out.cell (p:=⟨b,off+j*6,none⟩) hbl).trans (hc 0 _ rfl);have r3:=(HB.out.cell (p:=⟨b,off+j*6+3,none⟩) hbl).trans (hc 3 _ rfl);have HX:=Zh hy;have HMn:Hid (((x.flat.take (j+1)).filter fun y=>y.k == 2).map Xn.s=((x.flat.take j).filter fun y=>y.k == 2).map Xn.s++(if y.k == 2 then [y.s] else [])):=by
    rw [Hid,List.take_add_one,hy,List.filter_append,List.map_append]
    congr 1
    simp only [Option.toList_some,List.filter_cons,List.filter_nil]
    split <;> simp_all
   clear hRy hc hlk hy;by_cases hk:y.k=2
   ·have hk2:(y.k == 2)=true:=by rw [hk];rfl
    have HI:=Zh (zr3 B n2 c2 ys y.s wr HY.out HBn.out HBs.out (by omega));clear hk;go_wp2_with fail
    clear r0 r3;refine HI.out.mono ?_;rintro e w2 ⟨B3,n3,c3,zs,rfl,h3,h4,hsp3,h5,h6,hb2⟩
    have H3:=Zh h3;have H4:=Zh h4;have H5:=Zh hsp3;have H6:Hid (∀z,z∈zs ↔ z∈((x.flat.take (j+1)).filter fun y=>y.k == 2).map Xn.s):=fun z=>by
     rw [h6 z,HM.out z,HMn.out,if_pos hk2,Yt,List.mem_singleton]
    have HB2:=Zh (zAA HB.out hb2);clear h3 h4 h6 hb2 hsp3;go_wp2_with fail
    exact ⟨⟨j+1,B3,n3,c3,zs,by omega,by omega,rfl,by go_num,H3.out,H4.out,H5.out,H6.out,HB2.out⟩,by simp [intOf];omega⟩
   ·have hk2:(y.k == 2)=false:=by simpa using hk
    have H6:Hid (∀z,z∈ys ↔ z∈((x.flat.take (j+1)).filter fun y=>y.k == 2).map Xn.s):=fun z=>by
     rw [HM.out z,HMn.out,hk2,if_neg (by simp),List.append_nil]
    clear hk;go_wp2_with fail
    exact ⟨⟨j+1,B,n2,c2,ys,by omega,by omega,rfl,by go_num,HY.out,HBn.out,HBs.out,H6.out,HB.out⟩,by simp [intOf];omega⟩
  ·obtain rfl:j=n1:=by omega
   go_wp2_with fail
   go_ret;refine ⟨_,_,_,ys,rfl,HY.out,fun z=>?_,zAA HB1.out HB.out⟩;have:=HM.out z
   rwa [Xd (by omega),<- HV.out] at this
theorem zuB {w:World}{g:Nat}{t:TypeId}{a b:Value}(h:Blk w g t #[a,b]):w.cell? ⟨g,0,none⟩=some a/\w.cell? ⟨g,1,none⟩=some b:=⟨h.cell 0,h.cell 1⟩
theorem Blk.set2 {w:World}{g:Nat}{t:TypeId}{a0 a1:Value}(h:Blk w g t #[a0,a1]) (x0 x1:Value):Blk ((w.setCell ⟨g,0,none⟩ x0).setCell ⟨g,1,none⟩ x1) g t #[x0,x1]:=(h.set_ 0 x0).set_ 1 x1
theorem bdr (W:World):Below W.heap.size W W.drew:=zAR (Yp _ _) 1
theorem zm9 {B:Nat}{w:World}{g:Nat}(hg:B<=g) (x0 x1:Value):Below B w ((w.setCell ⟨g,0,none⟩ x0).setCell ⟨g,1,none⟩ x1):=
 ⟨rfl,rfl,rfl,by simp [World.setCell],fun k hk=>(Yl _ _ _ _ (by show k≠g;omega)).trans (Yl _ _ _ _ (by show k≠g;omega))⟩
theorem Blk.bel2 {w:World}{g:Nat}{t:TypeId}{a0 a1:Value}(_:Blk w g t #[a0,a1]) {B:Nat}(hg:B<=g) (x0 x1:Value):Below B w ((w.setCell ⟨g,0,none⟩ x0).setCell ⟨g,1,none⟩ x1):=zm9 hg x0 x1
theorem rsF {fn:Func}{k:Nat}(h:fn.results=#[.cell k 64]) {tmps:Array Value}{W:World}{g:Nat}{t:TypeId}{x0 x1:Value}(hk:tmps.getD k undef=.pointer (some ⟨g,0,none⟩)) (hB:Blk W g t #[x0,x1]) :
  (results fn tmps).run Tryz.prog W=.ok (.agg #[x0,x1]) W:=by
 have c0:=hB.cell 0;have c1:=hB.cell 1;simp at c0 c1;have hk':tmps[k]?.getD undef=.pointer (some ⟨g,0,none⟩):=by simpa using hk
 simp [results,h,hk',go_sem,c0,c1]
def zpF (p:Prop) (w:World) (e:Ending) (w':World):Prop:=∃ (c:Int) (s:ByteArray),e=.returned (.agg #[.int .i64 c,.string s])/\(c=0 ↔ p)/\Below w.heap.size w w'
theorem zrd {fn:Func}{k:Nat}(h:fn.results=#[.cell k 64]) {a:Act}{W w:World}{g:Nat}{t:TypeId}{c:Int}{s:ByteArray}{p:Prop}(hk:a.tmps.getD k undef=.pointer (some ⟨g,0,none⟩)) (hB:Blk W g t #[.int .i64 c,.string s])
  (hp:c=0 ↔ p) (hb:Below w.heap.size w W) (hd:a.defers=[]:=by rfl):bodyPost Tryz.prog fn (zpF p w) .ret a W:=Yn (rsF h hk hB) hd ⟨c,s,rfl,hp,hb⟩
theorem zqc (c:Int) (s:ByteArray) (w:World):Calls Tryz.prog 41 #[.int .i64 c,.string s] w fun e w'=>e=.returned (.agg #[.int .i64 c,.string s])/\Below w.heap.size w w':=by
 obtain ⟨W0,e0,hb0,k0⟩:=al1 w #[.int .i64 0,.string ⟨#[]⟩] 64;obtain ⟨q0,q1⟩:=zuB k0;have f0:=k0.frozen 0;have f1:=k0.frozen 1;have K0:=Zh (k0.set2 (.int .i64 c) (.string s));have HB0:=Zh (hb0.trans (zm9 (B:=w.heap.size) (Ya _) (.int .i64 c) (.string s)));clear k0 hb0;go_enter Tryz.func41,Tryz.ntmps41
 go_wp2_with fail
 exact Yn (rsF Tryz.results41 rfl K0.out) rfl ⟨rfl,HB0.out⟩
theorem zrL {α:Type}{l:List α}{j:Nat}{y:α}(h:l[j]? = some y):(l.take (j+1)).Nodup ↔ (l.take j).Nodup/\y ∉ l.take j:=by
 rw [List.take_add_one,h,Option.toList_some,List.nodup_append];simp;intro _;exact ⟨fun h hm=>h y hm rfl,fun h a ha e=>h (e ▸ ha)⟩
theorem zrB (A:Option Addr) (n c:Nat) (xs:List ByteArray) (w:World) (h:Sl 1 zql w A n c xs):Calls Tryz.prog 43 #[.slice A n c] w (zpF xs.Nodup w):=by
 have hn:=h.cap;have hm:=h.max;obtain ⟨W0,e0,hb0,k0⟩:=al1 w #[.int .i64 0,.string ⟨#[]⟩] 64;have HS:=Zh (h.next zqW hb0);have K0:=Zh k0;have HB0:=Zh hb0;clear h k0 hb0;go_enter Tryz.func43,Tryz.ntmps43
 go_wp2_with fail
 clear e0
 go_loopw [3] (fun i wr=>∃j q:Nat,j<=n/\i=.int .i64 j/\Hid ((xs.take j).Nodup)/\wr=W0.drewN q) (fun i _=>n - (intOf i).toNat)
 case atStart=>exact ⟨0,0,Nat.zero_le _,rfl,by simp [Hid],rfl⟩
 case round=>
  obtain ⟨j,q,hj,rfl,HN,rfl⟩:=hrel;by_cases hlt:j<n
  ·obtain ⟨W1,hW⟩:∃W1,W1=W0.drewN q:=⟨_,rfl⟩
   have KW:=Zh (K0.out.drewN q);have HBW:=Zh (zAR HB0.out q);have HSW:=Zh (HS.out.next zqW (zAR (Yp _ _) q));rw [<- hW] at KW HBW HSW ⊢;have HE:=Zh hW;clear hW;obtain ⟨b,off,x,vs,rfl,hbl,hx,hk,hR,hc⟩:=HSW.out.get hlt;unfold zql at hR;subst hR;have q0:=hc 0 _ rfl;rw [Nat.mul_one,Nat.add_zero] at q0;have HP:Hid (∀ (m:Nat),Calls Tryz.prog 72 #[.slice (some ⟨b,off,none⟩) j c,.string x] (W1.drewN m) fun e w''=>e=.returned (.int .i64 (zrl x 0 (xs.take j)))/\∃z,w'' = W1.drewN z):=fun m=>Calls.quiet_of_same (zqx _ _ _ _ _ (W1.drewN m) ((HSW.out.cut (Nat.le_of_lt hlt)).next zqW (zAR (Yp _ _) m)))
   have hmem:=zqy x 0 (xs.take j);generalize zrl x 0 (xs.take j)=r at *;have HX:=Zh hx;have HM:=Zh hmem;clear hx hc hk hmem;by_cases hr:0<=r
   ·have HNo:Hid (¬ xs.Nodup):=fun hnd=>((zrL HX.out).1 (hnd.sublist (List.take_sublist _ _))).2 (HM.out.1 hr)
    go_wp2_with fail
    go_big_quiet (first | (go_at_call 72;exact HP.out _))
    go_wp2_with fail
    refine (zqc _ _ _).mono ?_;rintro e w9 ⟨rfl,hb9⟩
    have k9:=(KW.out.drewN _).below hb9 ((KW.out.drewN _)).lt;have c0:=k9.cell 0;have c1:=k9.cell 1;have f0:=k9.frozen 0;have f1:=k9.frozen 1;have K9:=Zh (k9.set2 (.int .i64 8) (.string x));have HB9:=Zh ((zAA (zAR HBW.out _) hb9).trans (k9.bel2 (B:=w.heap.size) (by omega) (.int .i64 8) (.string x)));clear k9 hb9;go_wp2_with fail
    exact zrd Tryz.results43 rfl K9.out ⟨fun h=>absurd h (by decide),fun h=>absurd h HNo.out⟩ HB9.out
   ·have HN2:=Zh ((zrL HX.out).2 ⟨HN.out,fun hm=>hr (HM.out.2 hm)⟩)
    have hr':r<0:=by omega
    clear hr;go_wp2_with fail
    go_big_quiet (first | (go_at_call 72;exact HP.out _))
    go_wp2_with fail
    exact ⟨⟨j+1,_,by omega,by go_num,HN2.out,by rw [HE.out,World.drewN_drewN]⟩,by simp [intOf];omega⟩
  ·obtain rfl:n=j:=by omega
   have HY:Hid xs.Nodup:=by have:=HN.out;rwa [Xd (by rw [HS.out.len];exact Ya _)] at this
   have c0:=(K0.out.drewN q).cell 0;have c1:=(K0.out.drewN q).cell 1;have f0:=(K0.out.drewN q).frozen 0;have f1:=(K0.out.drewN q).frozen 1;have K9:=Zh ((K0.out.drewN q).set2 (.int .i64 0) (.string ⟨#[]⟩));have HB9:=Zh ((zAR HB0.out q).trans ((K0.out.drewN q).bel2 (B:=w.heap.size) (by omega) (.int .i64 0) (.string ⟨#[]⟩)));go_wp2_with fail
   exact zrd Tryz.results43 rfl K9.out ⟨fun _=>HY.out,fun _=>rfl⟩ HB9.out
theorem zrY (A:Option Addr) (n c:Nat) (xs:List ByteArray) (F:Nat->Prop) (d:Nat) (us:List Value) (x:Xn) (w:World) (h:Sl 1 zql w A n c xs) (hx:RX F d w us x) (hF:∀b,F b->b<w.heap.size) (hlen:x.flat.length<=800) :
  Calls Tryz.prog 140 #[.slice A n c,.agg us.toArray] w (zpF (∀z∈x.vars,z∈xs) w):=by
 have hn:=h.cap;have hm:=h.max;obtain ⟨B,m,p,d',rfl,rfl,-,-⟩:=hx.open;obtain ⟨W0,e0,hb0,k0,k1⟩:=al2 w #[.int .i64 x.k,.int .i64 x.a,.int .i64 x.b,.string x.s,.int .i64 x.n,.slice B m p] 82 #[.int .i64 0,.string ⟨#[]⟩] 64;obtain ⟨q0,q1,q2,q3,q4,q5⟩:=zqv k0;have HNm:=Zh (zsW F _ _ x W0 (zqX _ _ _ _ _ _ hx hb0) (fun b hb=>Yh (hF b hb) hb0.size) hlen);have HS:=Zh (h.next zqW hb0);have K1:=Zh k1;have HB0:=Zh hb0;clear h hx hF hlen k0 k1 hb0;go_enter Tryz.func140,Tryz.ntmps140
 go_wp2_with fail
 clear e0 q0 q1 q2 q3 q4 q5;refine HNm.out.mono ?_;rintro e w1 ⟨A2,n2,c2,ys,rfl,hS2,hv,hb1⟩
 have HS2:=Zh hS2;have HV:=Zh hv;replace HS:=Zh (HS.out.next zqW hb1);replace K1:=Zh (K1.out.below hb1 K1.out.lt);replace HB0:=Zh (zAA HB0.out hb1);have hn2:=hS2.cap;have hm2:=hS2.max;clear hS2 hv hb1 HNm;go_wp2_with fail
 go_loopw [6] (fun i wr=>∃j:Nat,j<=n2/\i=.int .i64 j/\Hid (∀q y,q<j->ys[q]? = some y->y∈xs)/\wr=w1) (fun i _=>n2 - (intOf i).toNat)
 case atStart=>exact ⟨0,Nat.zero_le _,rfl,fun q y hq=>absurd hq (by omega),rfl⟩
 case round=>
  obtain ⟨j,hj,rfl,HQ,hwr⟩:=hrel;obtain rfl:=hwr.symm;by_cases hlt:j<n2
  ·obtain ⟨b,off,y,vs,rfl,hbl,hy,hk,hR,hc⟩:=HS2.out.get hlt
   unfold zql at hR;subst hR;have q0:=hc 0 _ rfl;rw [Nat.mul_one,Nat.add_zero] at q0;have HP:=Zh (zqx A n c xs y w1 HS.out);have hmem:=zqy y 0 xs;generalize zrl y 0 xs=r at *;have HY:=Zh hy;have HM:=Zh hmem;clear hy hc hk hmem;by_cases hr:0<=r
   ·have HQ2:Hid (∀q z,q<j+1->ys[q]? = some z->z∈xs):=fun q z hq hz=>by
     by_cases hqj:q<j
     ·exact HQ.out q z hqj hz
     ·obtain rfl:q=j:=by omega
      rw [HY.out] at hz;injection hz with hz
      rw [<- hz];exact HM.out.1 hr
    go_wp2_with (go_at_call 72;refine HP.out.mono ?_;rintro e w' ⟨rfl,hw'⟩;obtain rfl:=hw'.symm)
    exact ⟨⟨j+1,by omega,by go_num,HQ2.out,trivial⟩,by simp [intOf];omega⟩
   ·have HNo:Hid (¬ ∀z∈x.vars,z∈xs):=fun h=>hr (HM.out.2 (h y ((HV.out y).1 (Yk HY.out))))
    have hr':r<0:=by omega
    clear hr
    go_wp2_with (go_at_call 72;refine HP.out.mono ?_;rintro e w' ⟨rfl,hw'⟩;obtain rfl:=hw'.symm)
    refine (zqc _ _ _).mono ?_;rintro e w9 ⟨rfl,hb9⟩
    have k9:=K1.out.below hb9 (K1.out).lt;have c0:=k9.cell 0;have c1:=k9.cell 1;have f0:=k9.frozen 0;have f1:=k9.frozen 1;have K9:=Zh (k9.set2 (.int .i64 7) (.string y));have HB9:=Zh ((zAA (HB0.out) hb9).trans (k9.bel2 (B:=w.heap.size) (by omega) (.int .i64 7) (.string y)));clear k9 hb9;go_wp2_with fail
    exact zrd Tryz.results140 rfl K9.out ⟨fun h=>absurd h (by decide),fun h=>absurd h HNo.out⟩ HB9.out
  ·obtain rfl:n2=j:=by omega
   have HYs:Hid (∀z∈x.vars,z∈xs):=fun z hz=>by
    obtain ⟨q,hq⟩:=List.mem_iff_getElem?.1 ((HV.out z).2 hz);exact HQ.out q z (by have:=(Yb.1 hq).1;have:=HS2.out.len;omega) hq
   have c0:=(K1.out).cell 0;have c1:=(K1.out).cell 1;have f0:=(K1.out).frozen 0;have f1:=(K1.out).frozen 1;have K9:=Zh ((K1.out).set2 (.int .i64 0) (.string ⟨#[]⟩));have HB9:=Zh ((HB0.out).trans ((K1.out).bel2 (B:=w.heap.size) (by omega) (.int .i64 0) (.string ⟨#[]⟩)));go_wp2_with fail
   exact zrd Tryz.results140 rfl K9.out ⟨fun _=>HYs.out,fun _=>rfl⟩ HB9.out
def ztf (st al bf:List ByteArray) (s:ByteArray) (x:Xn):Prop:=s∈st/\s ∉ bf/\∀z∈x.vars,z∈al
theorem zq9 (A B C:Option Addr) (n c m p i q:Nat) (st al bf:List ByteArray) (s:ByteArray) (F:Nat->Prop) (d:Nat) (us:List Value) (x:Xn) (w:World) (h1:Sl 1 zql w A n c st) (h2:Sl 1 zql w B m p al) (h3:Sl 1 zql w C i q bf) (hx:RX F d w us x) (hF:∀b,F b->b<w.heap.size) (hlen:x.flat.length<=800) :
  Calls Tryz.prog 74 #[.slice A n c,.slice B m p,.slice C i q,.string s,.agg us.toArray] w (zpF (ztf st al bf s x) w):=by
 obtain ⟨D,k,r,d',rfl,rfl,-,-⟩:=hx.open;obtain ⟨W0,e0,hb0,k0,k1⟩:=al2 w #[.int .i64 x.k,.int .i64 x.a,.int .i64 x.b,.string x.s,.int .i64 x.n,.slice D k r] 82 #[.int .i64 0,.string ⟨#[]⟩] 64;obtain ⟨q0,q1,q2,q3,q4,q5⟩:=zqv k0;have HK:=Zh (zrY B m p al F _ _ x W0 (h2.next zqW hb0) (zqX _ _ _ _ _ _ hx hb0) (fun b hb=>Yh (hF b hb) hb0.size) hlen);have HP1:=Zh (zqx A n c st s W0 (h1.next zqW hb0));have HP2:=Zh (zqx C i q bf s W0 (h3.next zqW hb0));have HM1:=Zh (zqy s 0 st);have HM2:=Zh (zqy s 0 bf);generalize zrl s 0 st=r1 at *;generalize zrl s 0 bf=r2 at *;have K1:=Zh k1;have HB0:=Zh hb0;clear h1 h2 h3 hx hF hlen k0 k1 hb0;by_cases g1:0<=r1
 ·by_cases g2:0<=r2
  ·have HNo:Hid (¬ ztf st al bf s x):=fun h=>h.2.1 (HM2.out.1 g2)
   go_enter Tryz.func74,Tryz.ntmps74
   go_wp2_with (first | fail)
   clear e0;refine HP1.out.mono ?_;rintro e w' ⟨rfl,hw'⟩
   obtain rfl:=hw'.symm;go_wp2_with fail
   refine HP2.out.mono ?_;rintro e w' ⟨rfl,hw'⟩
   obtain rfl:=hw'.symm;go_wp2_with fail
   refine (zqc _ _ _).mono ?_;rintro e w9 ⟨rfl,hb9⟩
   have k9:=K1.out.below hb9 (K1.out).lt;have c0:=k9.cell 0;have c1:=k9.cell 1;have f0:=k9.frozen 0;have f1:=k9.frozen 1;have K9:=Zh (k9.set2 (.int .i64 8) (.string s));have HB9:=Zh ((zAA (HB0.out) hb9).trans (k9.bel2 (B:=w.heap.size) (by omega) (.int .i64 8) (.string s)));clear k9 hb9;go_wp2_with fail
   exact zrd Tryz.results74 rfl K9.out ⟨fun h=>absurd h (by decide),fun h=>absurd h HNo.out⟩ HB9.out
  ·have g2':r2<0:=by omega
   have HI:Hid (ztf st al bf s x ↔ ∀z∈x.vars,z∈al):=⟨fun h=>h.2.2,fun h=>⟨HM1.out.1 g1,fun hm=>g2 (HM2.out.2 hm),h⟩⟩;clear g2;go_enter Tryz.func74,Tryz.ntmps74
   go_wp2_with fail
   clear e0;refine HP1.out.mono ?_;rintro e w' ⟨rfl,hw'⟩
   obtain rfl:=hw'.symm;go_wp2_with fail
   refine HP2.out.mono ?_;rintro e w' ⟨rfl,hw'⟩
   obtain rfl:=hw'.symm;go_wp2_with fail
   clear q0 q1 q2 q3 q4 q5;refine HK.out.mono ?_;rintro e w9 ⟨cc,ss,rfl,hp,hb9⟩
   have k9:=K1.out.below hb9 K1.out.lt;have c0:=k9.cell 0;have c1:=k9.cell 1;have f0:=k9.frozen 0;have f1:=k9.frozen 1;have K9:=Zh (k9.set2 (.int .i64 cc) (.string ss));have HB9:=Zh ((zAA HB0.out hb9).trans (k9.bel2 (B:=w.heap.size) (by omega) (.int .i64 cc) (.string ss)));have HPP:=Zh hp;clear k9 hb9 hp;go_wp2_with fail
   exact zrd Tryz.results74 rfl K9.out (HPP.out.trans HI.out.symm) HB9.out
 ·have g1':r1<0:=by omega
  have HNo:Hid (¬ ztf st al bf s x):=fun h=>g1 (HM1.out.2 h.1)
  clear g1;go_enter Tryz.func74,Tryz.ntmps74
  go_wp2_with fail
  clear e0;refine HP1.out.mono ?_;rintro e w' ⟨rfl,hw'⟩
  obtain rfl:=hw'.symm;go_wp2_with fail
  refine (zqc _ _ _).mono ?_;rintro e w9 ⟨rfl,hb9⟩
  have k9:=K1.out.below hb9 (K1.out).lt;have c0:=k9.cell 0;have c1:=k9.cell 1;have f0:=k9.frozen 0;have f1:=k9.frozen 1;have K9:=Zh (k9.set2 (.int .i64 7) (.string s));have HB9:=Zh ((zAA (HB0.out) hb9).trans (k9.bel2 (B:=w.heap.size) (by omega) (.int .i64 7) (.string s)));clear k9 hb9;go_wp2_with fail
  exact zrd Tryz.results74 rfl K9.out ⟨fun h=>absurd h (by decide),fun h=>absurd h HNo.out⟩ HB9.out
open Go.Shelf
theorem zvW (e:Int) (w:World):Calls Tryz.prog 22 #[.int .i64 e] w fun en w'=>∃vs,en=.returned (.agg vs.toArray)/\RD w' vs ⟨false,[1],e⟩/\Below w.heap.size w w':=by
 obtain ⟨W0,e0,hb0,k0⟩:=al1 w #[.bool false,.slice none 0 0,.int .i64 0] 30;obtain ⟨W1,e1,hb1,k1⟩:=al1 W0 #[.int .u32 1] 113;have k01:=k0.below hb1 k0.lt;have q0:=k01.cell 0;have q1:=k01.cell 1;have q2:=k01.cell 2;have f0:=k01.frozen 0;have f1:=k01.frozen 1;have f2:=k01.frozen 2;have K0:=Zh (k01.set3 (.bool false) (.slice (some ⟨W0.heap.size,0,none⟩) 1 1) (.int .i64 e));have hs:W0.heap.size=w.heap.size+1:=by rw [<- e0];simp
 have K1:=Zh k1;have HB:=Zh (zAA hb0 hb1);clear k0 k1 k01 hb0 hb1;go_enter Tryz.func22,Tryz.ntmps22
 go_wp2_with fail
 rw [<- hs];refine Yn (zHV Tryz.results22 rfl K0.out) rfl ⟨[_,_,_],rfl,⟨_,_,_,rfl,⟨rfl,Ya _,by simp,(fun y hy=>by simp at hy;omega),fun _=>⟨_,0,rfl,?_,fun j y hy=>?_⟩⟩⟩,?_⟩
 ·have:=K1.out.lt
  simpa [World.setCell] using this
 ·have hj:j=0:=by have:=(Yb.1 hy).1;simpa using this
  subst hj;simp at hy;subst hy;have:=(((K1.out.far (p:=⟨w.heap.size,0,none⟩) (show W0.heap.size≠w.heap.size by omega) (.bool false)).far (p:=⟨w.heap.size,1,none⟩) (show W0.heap.size≠w.heap.size by omega) (.slice (some ⟨W0.heap.size,0,none⟩) 1 1)).far (p:=⟨w.heap.size,2,none⟩) (show W0.heap.size≠w.heap.size by omega) (.int .i64 e)).cell 0;exact this
 ·exact HB.out.trans ⟨rfl,rfl,rfl,by simp [World.setCell],fun k hk=>((Yl _ _ _ _ (by show k≠w.heap.size;omega)).trans (Yl _ _ _ _ (by show k≠w.heap.size;omega))).trans (Yl _ _ _ _ (by show k≠w.heap.size;omega))⟩
def CvP (me od pr tl mo:Int) (x:Dy):Prop:=(me=1\/me=2\/me=3)/\(1<=od/\od<=15/\8<=pr/\pr<=256/\0<=tl/\tl<=200/\1<=mo/\mo<=1000)/\vld x=true/\0<zBP x/\zCH x ⟨false,[1],20⟩<=0
def CvQ (P:Prop) (w:World) (e:Ending) (w':World):Prop:=∃t:Bool,e=.returned (.bool t)/\(t=true ↔ P)/\Below w.heap.size w w'
theorem CvQ.mk {P:Prop}{w w':World}{e:Ending}{t:Bool}(h:e=.returned (.bool t)) (h2:t=true ↔ P) (h3:Below w.heap.size w w'):CvQ P w e w':=⟨t,h,h2,h3⟩
theorem zrR (me od pr tl mo:Int) (ds:List Value) (x:Dy) (w:World) (h:RD w ds x) (hd:Bd x):Calls Tryz.prog 7 #[.agg (([.int .i64 me,.int .i64 od,.int .i64 pr]:List Value)++ds++([.int .i64 tl,.int .i64 mo]:List Value)).toArray] w (CvQ (CvP me od pr tl mo x) w):=by
 have hr:=h;obtain ⟨A,n,c,rfl,hs⟩:=h;have hlen:=hs.cap;have hmax:=hs.max
 show Calls Tryz.prog 7 #[.agg #[.int .i64 me,.int .i64 od,.int .i64 pr,.bool x.neg,.slice A n c,.int .i64 x.e,.int .i64 tl,.int .i64 mo]] w _
 obtain ⟨W0,e0,hb0,k0⟩:=al1 w #[.int .i64 me,.int .i64 od,.int .i64 pr,.bool x.neg,.slice A n c,.int .i64 x.e,.int .i64 tl,.int .i64 mo] 32;obtain ⟨q0,q1,q2,q3,q4,q5,q6,q7⟩:=k0.cells8;obtain ⟨P,HP⟩:∃P:Prop,Hid (P=CvP me od pr tl mo x):=⟨_,rfl⟩;rw [<- HP.out];have HV:=Zh (fun W (hb:Below W0.heap.size W0 W)=>zEl [.bool x.neg,.slice A n c,.int .i64 x.e] x W (zAQ w W _ _ hr (zAA hb0 hb)) hd);have HS:=Zh (fun W (hb:Below W0.heap.size W0 W)=>zRo [.bool x.neg,.slice A n c,.int .i64 x.e] x W (zAQ w W _ _ hr (zAA hb0 hb)) hd);have HC:=Zh (fun us W (hb:Below W0.heap.size W0 W) (h2:RD W us ⟨false,[1],20⟩)=>zIW [.bool x.neg,.slice A n c,.int .i64 x.e] us x ⟨false,[1],20⟩ W (zAQ w W _ _ hr (zAA hb0 hb)) h2 hd (by simp [Bd]));have HT:=Zh (zvW 20);have HQ:Hid (P ↔ (me=1\/me=2\/me=3)/\(1<=od/\od<=15/\8<=pr/\pr<=256/\0<=tl/\tl<=200/\1<=mo/\mo<=1000)/\vld x=true/\0<zBP x/\zCH x ⟨false,[1],20⟩<=0):=by rw [HP.out];exact Iff.rfl
 generalize vld x=vv at *;generalize zBP x=sg at *;generalize zCH x ⟨false,[1],20⟩=cm at *;have HK:Hid (∀W,Below W0.heap.size W0 W->(fun W=>W.cell? ⟨w.heap.size,3,none⟩=some (.bool x.neg)/\W.cell? ⟨w.heap.size,4,none⟩=some (.slice A n c)/\W.cell? ⟨w.heap.size,5,none⟩=some (.int .i64 x.e)) W):=fun W hb=>(by
  have k:=(k0.below hb k0.lt).cells8;exact ⟨k.2.2.2.1,k.2.2.2.2.1,k.2.2.2.2.2.1⟩)
 have HB0:=Zh hb0;clear hr hs k0 hb0 HP;by_cases hm:me=1\/me=2\/me=3
 ·by_cases ho:1<=od/\od<=15/\8<=pr/\pr<=256/\0<=tl/\tl<=200/\1<=mo/\mo<=1000
  ·have HQ2:Hid (P ↔ vv=true/\0<sg/\cm<=0):=⟨fun h=>(HQ.out.1 h).2.2,fun h=>HQ.out.2 ⟨hm,ho,h⟩⟩
   obtain ⟨o1,o2,o3,o4,o5,o6,o7,o8⟩:=ho;have d1:decide (od<1)=false:=Ye (by omega);have d2:decide (15<od)=false:=Ye (by omega);have d3:decide (pr<8)=false:=Ye (by omega);have d4:decide (256<pr)=false:=Ye (by omega);have d5:decide (tl<0)=false:=Ye (by omega);have d6:decide (200<tl)=false:=Ye (by omega);have d7:decide (mo<1)=false:=Ye (by omega);have d8:decide (1000<mo)=false:=Ye (by omega);clear o1 o2 o3 o4 o5 o6 o7 o8;clear HQ;have hB:=bdr W0;cases vv
   ·rcases hm with rfl | rfl | rfl <;>
    ·go_enter Tryz.func7,Tryz.ntmps7
     go_wp2_with fail
     clear e0 q0 q1 q2 q3 q4 q5 q6 q7;refine wp_region_held_drew (S:=(fun W=>W.cell? ⟨w.heap.size,3,none⟩=some (.bool x.neg)/\W.cell? ⟨w.heap.size,4,none⟩=some (.slice A n c)/\W.cell? ⟨w.heap.size,5,none⟩=some (.int .i64 x.e))) (by kernel_rfl) (HK.out _ hB) (fun hH=>?_);refine tkh 0 hH ?_;refine tkh 1 hH ?_;simp only [Act.put,sT,sZ,sS];refine rdh 2 (fun K hK=>?_)
     go_simp
     refine (HV.out _ hB).mono ?_;rintro e V1 ⟨rfl,hc⟩
     replace hB:=zAA hB hc;clear hc;go_wp2_with fail
     refine hK.out _ _ (HK.out _ hB) (fun hH=>?_);clear hK K;refine tkh 3 hH ?_;refine wpAnyH_take (i:=4) (oi:=⟨_,_,_,_,_,_⟩) (v:=undef) rfl (by kernel_rfl) (by kernel_rfl) (by kernel_rfl) (fun _ _ _ h=>h) (Or.inr ⟨by rfl,rfl⟩) hH ?_;simp only [Act.put,sT,sZ,sS];refine wpAnyH_take (i:=5) (oi:=⟨_,_,_,_,_,_⟩) (v:=undef) rfl (by kernel_rfl) (by kernel_rfl) (by kernel_rfl) (fun _ _ _ h=>h) (Or.inr ⟨by rfl,rfl⟩) hH ?_;simp only [Act.put,sT,sZ,sS];refine wpAnyH_take (i:=6) (oi:=⟨_,_,_,_,_,_⟩) (v:=undef) rfl (by kernel_rfl) (by kernel_rfl) (by kernel_rfl) (fun _ _ _ h=>h) (Or.inr ⟨by rfl,rfl⟩) hH ?_;simp only [Act.put,sT,sZ,sS];refine wpAnyH_take (i:=7) (oi:=⟨_,_,_,_,_,_⟩) (v:=undef) rfl (by kernel_rfl) (by kernel_rfl) (by kernel_rfl) (fun _ _ _ h=>h) (Or.inr ⟨by rfl,rfl⟩) hH ?_;simp only [Act.put,sT,sZ,sS];refine tkh 8 hH ?_;refine tkh 9 hH ?_;refine wpAnyH_take (i:=10) (oi:=⟨_,_,_,_,_,_⟩) (v:=undef) rfl (by kernel_rfl) (by kernel_rfl) (by kernel_rfl) (fun _ _ _ h=>h) (Or.inr ⟨by rfl,rfl⟩) hH ?_;simp only [Act.put,sT,sZ,sS];refine wpAnyH_take (i:=11) (oi:=⟨_,_,_,_,_,_⟩) (v:=undef) rfl (by kernel_rfl) (by kernel_rfl) (by kernel_rfl) (fun _ _ _ h=>h) (Or.inr ⟨by rfl,rfl⟩) hH ?_;simp only [Act.put,sT,sZ,sS];refine wpAnyH_take (i:=12) (oi:=⟨_,_,_,_,_,_⟩) (v:=undef) rfl (by kernel_rfl) (by kernel_rfl) (by kernel_rfl) (fun _ _ _ h=>h) (Or.inr ⟨by rfl,rfl⟩) hH ?_;simp only [Act.put,sT,sZ,sS];refine wpAnyH_take (i:=13) (oi:=⟨_,_,_,_,_,_⟩) (v:=undef) rfl (by kernel_rfl) (by kernel_rfl) (by kernel_rfl) (fun _ _ _ h=>h) (Or.inr ⟨by rfl,rfl⟩) hH ?_;simp only [Act.put,sT,sZ,sS];refine wpAnyH_take (i:=14) (oi:=⟨_,_,_,_,_,_⟩) (v:=undef) rfl (by kernel_rfl) (by kernel_rfl) (by kernel_rfl) (fun _ _ _ h=>h) (Or.inr ⟨by rfl,rfl⟩) hH ?_;simp only [Act.put,sT,sZ,sS];refine tkh 15 hH ?_;refine tkh 16 hH ?_;simp only [Act.put,sT,sZ,sS];refine wpAnyH_done (by kernel_rfl) ?_ _;go_wp2_with fail
     go_ret;exact CvQ.mk (t:=false) rfl ⟨(fun h=>by cases h),(fun h=>by have:=(HQ2.out.1 h).1;first | cases this | simp at this)⟩ (zAA HB0.out hB)
   ·have HQ3:Hid (P ↔ 0<sg/\cm<=0):=⟨fun h=>(HQ2.out.1 h).2,fun h=>HQ2.out.2 ⟨rfl,h⟩⟩
    clear HQ2;by_cases hg:0<sg
    ·have dg:decide (0<sg)=true:=Yf hg
     have HG:=Zh hg;clear hg;by_cases hc0:cm<=0
     ·have dc:decide (cm<=0)=true:=Yf hc0
      have HC0:=Zh hc0;clear hc0;rcases hm with rfl | rfl | rfl <;>
      ·go_enter Tryz.func7,Tryz.ntmps7
       go_wp2_with fail
       clear e0 q0 q1 q2 q3 q4 q5 q6 q7;refine wp_region_held_drew (S:=(fun W=>W.cell? ⟨w.heap.size,3,none⟩=some (.bool x.neg)/\W.cell? ⟨w.heap.size,4,none⟩=some (.slice A n c)/\W.cell? ⟨w.heap.size,5,none⟩=some (.int .i64 x.e))) (by kernel_rfl) (HK.out _ hB) (fun hH=>?_);refine tkh 0 hH ?_;refine tkh 1 hH ?_;simp only [Act.put,sT,sZ,sS];refine rdh 2 (fun K hK=>?_)
       go_simp
       refine (HV.out _ hB).mono ?_;rintro e V1 ⟨rfl,hc⟩
       replace hB:=zAA hB hc;clear hc;go_wp2_with fail
       refine hK.out _ _ (HK.out _ hB) (fun hH=>?_);clear hK K;refine tkh 3 hH ?_;refine tkh 4 hH ?_;refine tkh 5 hH ?_;simp only [Act.put,sT,sZ,sS];refine rdh 6 (fun K hK=>?_)
       go_simp
       refine (HS.out _ hB).mono ?_;rintro e V2 ⟨rfl,hc⟩
       replace hB:=zAA hB hc;clear hc;go_wp2_with fail
       refine hK.out _ _ (HK.out _ hB) (fun hH=>?_);clear hK K;refine tkh 7 hH ?_;refine tkh 8 hH ?_;refine tkh 9 hH ?_;refine tkh 10 hH ?_;refine tkh 11 hH ?_;simp only [Act.put,sT,sZ,sS];refine rdh 12 (fun K hK=>?_)
       go_simp
       refine (HT.out _).mono ?_;rintro e V3 ⟨vs2,rfl,hr2,hc⟩
       have HR2:=Zh hr2;replace hB:=zAA hB hc;clear hc hr2;go_wp2_with fail
       refine hK.out _ _ (HK.out _ hB) (fun hH=>?_);clear hK K;refine rdh 13 (fun K hK=>?_)
       go_simp
       refine (HC.out _ _ hB HR2.out).mono ?_;rintro e V4 ⟨rfl,hc⟩
       replace hB:=zAA hB hc;clear hc;go_wp2_with fail
       refine hK.out _ _ (HK.out _ hB) (fun hH=>?_);clear hK K;refine tkh 14 hH ?_;refine tkh 15 hH ?_;refine tkh 16 hH ?_;simp only [Act.put,sT,sZ,sS];refine wpAnyH_done (by kernel_rfl) ?_ _;go_wp2_with fail
       go_ret;exact CvQ.mk (t:=true) rfl ⟨fun _=>HQ3.out.2 ⟨HG.out,HC0.out⟩,fun _=>rfl⟩ (zAA HB0.out hB)
     ·have dc:decide (cm<=0)=false:=Ye hc0
      have HC0:=Zh hc0;clear hc0;rcases hm with rfl | rfl | rfl <;>
      ·go_enter Tryz.func7,Tryz.ntmps7
       go_wp2_with fail
       clear e0 q0 q1 q2 q3 q4 q5 q6 q7;refine wp_region_held_drew (S:=(fun W=>W.cell? ⟨w.heap.size,3,none⟩=some (.bool x.neg)/\W.cell? ⟨w.heap.size,4,none⟩=some (.slice A n c)/\W.cell? ⟨w.heap.size,5,none⟩=some (.int .i64 x.e))) (by kernel_rfl) (HK.out _ hB) (fun hH=>?_);refine tkh 0 hH ?_;refine tkh 1 hH ?_;simp only [Act.put,sT,sZ,sS];refine rdh 2 (fun K hK=>?_)
       go_simp
       refine (HV.out _ hB).mono ?_;rintro e V1 ⟨rfl,hc⟩
       replace hB:=zAA hB hc;clear hc;go_wp2_with fail
       refine hK.out _ _ (HK.out _ hB) (fun hH=>?_);clear hK K;refine tkh 3 hH ?_;refine tkh 4 hH ?_;refine tkh 5 hH ?_;simp only [Act.put,sT,sZ,sS];refine rdh 6 (fun K hK=>?_)
       go_simp
       refine (HS.out _ hB).mono ?_;rintro e V2 ⟨rfl,hc⟩
       replace hB:=zAA hB hc;clear hc;go_wp2_with fail
       refine hK.out _ _ (HK.out _ hB) (fun hH=>?_);clear hK K;refine tkh 7 hH ?_;refine tkh 8 hH ?_;refine tkh 9 hH ?_;refine tkh 10 hH ?_;refine tkh 11 hH ?_;simp only [Act.put,sT,sZ,sS];refine rdh 12 (fun K hK=>?_)
       go_simp
       refine (HT.out _).mono ?_;rintro e V3 ⟨vs2,rfl,hr2,hc⟩
       have HR2:=Zh hr2;replace hB:=zAA hB hc;clear hc hr2;go_wp2_with fail
       refine hK.out _ _ (HK.out _ hB) (fun hH=>?_);clear hK K;refine rdh 13 (fun K hK=>?_)
       go_simp
       refine (HC.out _ _ hB HR2.out).mono ?_;rintro e V4 ⟨rfl,hc⟩
       replace hB:=zAA hB hc;clear hc;go_wp2_with fail
       refine hK.out _ _ (HK.out _ hB) (fun hH=>?_);clear hK K;refine tkh 14 hH ?_;refine tkh 15 hH ?_;refine tkh 16 hH ?_;simp only [Act.put,sT,sZ,sS];refine wpAnyH_done (by kernel_rfl) ?_ _;go_wp2_with fail
       go_ret;exact CvQ.mk (t:=false) rfl ⟨(fun h=>by cases h),fun h=>absurd (HQ3.out.1 h).2 (by have:=HC0.out;omega)⟩ (zAA HB0.out hB)
    ·have dg:decide (0<sg)=false:=Ye hg
     have HG:=Zh hg;clear hg;rcases hm with rfl | rfl | rfl <;>
     ·go_enter Tryz.func7,Tryz.ntmps7
      go_wp2_with fail
      clear e0 q0 q1 q2 q3 q4 q5 q6 q7;refine wp_region_held_drew (S:=(fun W=>W.cell? ⟨w.heap.size,3,none⟩=some (.bool x.neg)/\W.cell? ⟨w.heap.size,4,none⟩=some (.slice A n c)/\W.cell? ⟨w.heap.size,5,none⟩=some (.int .i64 x.e))) (by kernel_rfl) (HK.out _ hB) (fun hH=>?_);refine tkh 0 hH ?_;refine tkh 1 hH ?_;simp only [Act.put,sT,sZ,sS];refine rdh 2 (fun K hK=>?_)
      go_simp
      refine (HV.out _ hB).mono ?_;rintro e V1 ⟨rfl,hc⟩
      replace hB:=zAA hB hc;clear hc;go_wp2_with fail
      refine hK.out _ _ (HK.out _ hB) (fun hH=>?_);clear hK K;refine tkh 3 hH ?_;refine tkh 4 hH ?_;refine tkh 5 hH ?_;simp only [Act.put,sT,sZ,sS];refine rdh 6 (fun K hK=>?_)
      go_simp
      refine (HS.out _ hB).mono ?_;rintro e V2 ⟨rfl,hc⟩
      replace hB:=zAA hB hc;clear hc;go_wp2_with fail
      refine hK.out _ _ (HK.out _ hB) (fun hH=>?_);clear hK K;refine tkh 7 hH ?_;refine tkh 8 hH ?_;refine tkh 9 hH ?_;refine wpAnyH_take (i:=10) (oi:=⟨_,_,_,_,_,_⟩) (v:=undef) rfl (by kernel_rfl) (by kernel_rfl) (by kernel_rfl) (fun _ _ _ h=>h) (Or.inr ⟨by rfl,rfl⟩) hH ?_;simp only [Act.put,sT,sZ,sS];refine wpAnyH_take (i:=11) (oi:=⟨_,_,_,_,_,_⟩) (v:=undef) rfl (by kernel_rfl) (by kernel_rfl) (by kernel_rfl) (fun _ _ _ h=>h) (Or.inr ⟨by rfl,rfl⟩) hH ?_;simp only [Act.put,sT,sZ,sS];refine wpAnyH_take (i:=12) (oi:=⟨_,_,_,_,_,_⟩) (v:=undef) rfl (by kernel_rfl) (by kernel_rfl) (by kernel_rfl) (fun _ _ _ h=>h) (Or.inr ⟨by rfl,rfl⟩) hH ?_;simp only [Act.put,sT,sZ,sS];refine wpAnyH_take (i:=13) (oi:=⟨_,_,_,_,_,_⟩) (v:=undef) rfl (by kernel_rfl) (by kernel_rfl) (by kernel_rfl) (fun _ _ _ h=>h) (Or.inr ⟨by rfl,rfl⟩) hH ?_;simp only [Act.put,sT,sZ,sS];refine wpAnyH_take (i:=14) (oi:=⟨_,_,_,_,_,_⟩) (v:=undef) rfl (by kernel_rfl) (by kernel_rfl) (by kernel_rfl) (fun _ _ _ h=>h) (Or.inr ⟨by rfl,rfl⟩) hH ?_;simp only [Act.put,sT,sZ,sS];refine tkh 15 hH ?_;refine tkh 16 hH ?_;simp only [Act.put,sT,sZ,sS];refine wpAnyH_done (by kernel_rfl) ?_ _;go_wp2_with fail
      go_ret;exact CvQ.mk (t:=false) rfl ⟨(fun h=>by cases h),fun h=>absurd (HQ3.out.1 h).1 (by have:=HG.out;omega)⟩ (zAA HB0.out hB)
  ·have HN:Hid (false=true ↔ P):=⟨(fun h=>by cases h),fun h=>absurd (HQ.out.1 h).2.1 ho⟩
   clear HQ HV HS HC HT HK;by_cases g1:od<1
   ·have d1:decide (od<1)=true:=Yf g1
    clear ho g1;rcases hm with rfl | rfl | rfl <;>
    ·go_enter Tryz.func7,Tryz.ntmps7
     go_wp2_with fail
     go_ret;exact CvQ.mk (t:=false) rfl HN.out HB0.out
   have d1:decide (od<1)=false:=Ye g1;by_cases g2:15<od
   ·have d2:decide (15<od)=true:=Yf g2
    clear ho g2;rcases hm with rfl | rfl | rfl <;>
    ·go_enter Tryz.func7,Tryz.ntmps7
     go_wp2_with fail
     go_ret;exact CvQ.mk (t:=false) rfl HN.out HB0.out
   have d2:decide (15<od)=false:=Ye g2;by_cases g3:pr<8
   ·have d3:decide (pr<8)=true:=Yf g3
    clear ho g3;rcases hm with rfl | rfl | rfl <;>
    ·go_enter Tryz.func7,Tryz.ntmps7
     go_wp2_with fail
     go_ret;exact CvQ.mk (t:=false) rfl HN.out HB0.out
   have d3:decide (pr<8)=false:=Ye g3;by_cases g4:256<pr
   ·have d4:decide (256<pr)=true:=Yf g4
    clear ho g4;rcases hm with rfl | rfl | rfl <;>
    ·go_enter Tryz.func7,Tryz.ntmps7
     go_wp2_with fail
     go_ret;exact CvQ.mk (t:=false) rfl HN.out HB0.out
   have d4:decide (256<pr)=false:=Ye g4;by_cases g5:tl<0
   ·have d5:decide (tl<0)=true:=Yf g5
    clear ho g5;rcases hm with rfl | rfl | rfl <;>
    ·go_enter Tryz.func7,Tryz.ntmps7
     go_wp2_with fail
     go_ret;exact CvQ.mk (t:=false) rfl HN.out HB0.out
   have d5:decide (tl<0)=false:=Ye g5;by_cases g6:200<tl
   ·have d6:decide (200<tl)=true:=Yf g6
    clear ho g6;rcases hm with rfl | rfl | rfl <;>
    ·go_enter Tryz.func7,Tryz.ntmps7
     go_wp2_with fail
     go_ret;exact CvQ.mk (t:=false) rfl HN.out HB0.out
   have d6:decide (200<tl)=false:=Ye g6;by_cases g7:mo<1
   ·have d7:decide (mo<1)=true:=Yf g7
    clear ho g7;rcases hm with rfl | rfl | rfl <;>
    ·go_enter Tryz.func7,Tryz.ntmps7
     go_wp2_with fail
     go_ret;exact CvQ.mk (t:=false) rfl HN.out HB0.out
   have d7:decide (mo<1)=false:=Ye g7;by_cases g8:1000<mo
   ·have d8:decide (1000<mo)=true:=Yf g8
    clear ho g8;rcases hm with rfl | rfl | rfl <;>
    ·go_enter Tryz.func7,Tryz.ntmps7
     go_wp2_with fail
     go_ret;exact CvQ.mk (t:=false) rfl HN.out HB0.out
   have d8:decide (1000<mo)=false:=Ye g8;exact absurd ⟨by omega,by omega,by omega,by omega,by omega,by omega,by omega,by omega⟩ ho
 ·have HN:Hid (false=true ↔ P):=⟨(fun h=>by cases h),fun h=>absurd (HQ.out.1 h).1 hm⟩
  have e1:(me == 1)=false:=by simpa using fun h=>hm (.inl h)
  have e2:(me == 2)=false:=by simpa using fun h=>hm (.inr (.inl h))
  have e3:(me == 3)=false:=by simpa using fun h=>hm (.inr (.inr h))
  have e1n:(me != 1)=true:=by simp [bne,e1]
  have e2n:(me != 2)=true:=by simp [bne,e2]
  have e3n:(me != 3)=true:=by simp [bne,e3]
  clear HQ HV HS HC HT HK;go_enter Tryz.func7,Tryz.ntmps7
  go_wp2_with fail
  go_ret;exact CvQ.mk (t:=false) rfl HN.out HB0.out
theorem zt9 {st al:List ByteArray}{l:List Eq1}{j:Nat}{q:Eq1}(h:zrm st al l) (hq:l[j]? = some q):ztf st al ((l.take j).map Eq1.s) q.s q.e:=by
 have hm:=Yk hq;refine ⟨h.state q hm,?_,h.known q hm⟩;have h1:(l.map Eq1.s)[j]? = some q.s:=by rw [List.getElem?_map,hq];rfl
 have h2:=((zrL h1).1 (h.nodup.sublist (List.take_sublist _ _))).2
 rwa [<- List.map_take] at h2
def zt7 (st al md:List ByteArray) (x:Ed):Prop:=x.to∈md/\(∀z∈x.g.vars,z∈al)/\zrm st al x.rs
theorem zs0 (A B C:Option Addr) (n c m p i q:Nat) (st al md:List ByteArray) (F:Nat->Prop) (d:Nat) (us:List Value) (x:Ed) (w:World) (h1:Sl 1 zql w A n c st) (h2:Sl 1 zql w B m p al) (h3:Sl 1 zql w C i q md) (hx:REd F d w us x) (hF:∀b,F b->b<w.heap.size) (hg:x.g.flat.length<=800) (hr:∀y∈x.rs,y.e.flat.length<=800) (h4:x.rs.length<=4) :
  Calls Tryz.prog 75 #[.slice A n c,.slice B m p,.slice C i q,.agg us.toArray] w (zpF (zt7 st al md x) w):=by
 obtain ⟨D,k0,c0,E,k,r,rfl,hX,hS⟩:=hx.open;obtain ⟨W0,e0,hb0,kb,kr⟩:=al2 w #[.int .i64 x.g.k,.int .i64 x.g.a,.int .i64 x.g.b,.string x.g.s,.int .i64 x.g.n,.slice D k0 c0,.int .i64 x.dir,.string x.to,.slice E k r] 89 #[.int .i64 0,.string ⟨#[]⟩] 64;obtain ⟨q0,q1,q2,q3,q4,q5,q6,q7,q8⟩:=zrQ kb;have HKN:=Zh (zrY B m p al F d _ x.g W0 (h2.next zqW hb0) (zqX _ _ _ _ _ _ hX hb0) (fun b hb=>Yh (hF b hb) hb0.size) hg);have HP1:=Zh (zqx C i q md x.to W0 (h3.next zqW hb0));have HM1:=Zh (zqy x.to 0 md);generalize zrl x.to 0 md=r1 at *;have H1:=Zh (fun W (hb:Below w.heap.size w W)=>h1.next zqW hb);have H2:=Zh (fun W (hb:Below w.heap.size w W)=>h2.next zqW hb);have HS:=Zh hS;have HZ:=Zh hr;have HF:=Zh hF;have HK4:k<=4:=by rw [<- hS.len];exact h4
 have KB:=Zh kb;have KR:=Zh kr;have HB0:=Zh hb0;clear h1 h2 h3 hX hS hx hF hg hr h4 kb kr hb0;by_cases g1:0<=r1
 ·have HTo:=Zh (HM1.out.1 g1)
  go_enter Tryz.func75,Tryz.ntmps75
  go_wp2_with fail
  clear e0;refine HP1.out.mono ?_;rintro e w' ⟨rfl,hw'⟩
  obtain rfl:=hw'.symm;go_wp2_with fail
  clear q0 q1 q2 q3 q4 q5 q6 q7 q8;refine HKN.out.mono ?_;rintro e w1 ⟨cc,ss,rfl,hp,hb1⟩
  have HPK:=Zh hp;obtain ⟨W2,e2,hb2,k2⟩:=al1 w1 #[.int .i64 cc,.string ss] 64;obtain ⟨x0,x1⟩:=zuB k2;have KB2:=Zh (KB.out.below (zAA hb1 hb2) KB.out.lt);have KR2:=Zh (KR.out.below (zAA hb1 hb2) KR.out.lt);have HB2:=Zh (zAA HB0.out (zAA hb1 hb2));have hsz2:=HB2.out.size;clear hp hb1 hb2 k2 HKN;by_cases hcc:cc=0
  ·subst hcc
   have HKk:=Zh (HPK.out.1 rfl);go_wp2_with fail
   clear e2 x0 x1
   go_loopw [10,11] (fun vo vi wr=>∃j:Nat,j<=k/\vi=.int .i64 j/\Hid (zqq wr W2.heap.size vo ((x.rs.take j).map Eq1.s))/\Hid (zsL st al x.rs j)/\Hid (Below W2.heap.size W2 wr)) (fun _ vi _=>k - (intOf vi).toNat)
   case atStart=>exact ⟨0,Nat.zero_le _,rfl,zqq.nil _ _,zsL.zero _ _ _,Yp _ _⟩
   case round=>
    obtain ⟨j,hj,rfl,HO,HJ,HB⟩:=hrel;have hsz:=HB.out.size;have hBw:=zAA HB2.out HB.out;have HKB:=Zh (KB2.out.below HB.out (KB2.out).lt);have HKR:=Zh (KR2.out.below HB.out (KR2.out).lt);have hlj:((x.rs.take j).map Eq1.s).length=j:=by rw [Xe,Yr,HS.out.len];omega
    obtain ⟨Av,cv,hv,hSv⟩:=HO.out.sl;rw [hlj] at hv hSv;subst hv;have z0:=HKB.out.cell 8;by_cases hlt:j<k
    ·obtain ⟨b,off,y,vs,rfl,hbl,hy,hlk,hRy,hc⟩:=HS.out.get hlt
     obtain ⟨A5,n5,c5,rfl,hX5⟩:=hRy.open;have HAS:=Zh (fun (W:World) (hb:Below wr.heap.size wr W)=>zq9 _ _ _ _ _ _ _ _ _ st al ((x.rs.take j).map Eq1.s) y.s F d _ y.e W (H1.out W (zAA hBw hb)) (H2.out W (zAA hBw hb)) (hSv.next zqW hb) (zqX F d _ _ _ _ hX5 (zAA hBw hb)) (fun b hb2=>Yh (HF.out b hb2) (zAA hBw hb).size) (HZ.out y (Yk hy)));have HK:Hid (∀V,Below wr.heap.size wr V->(fun W=>W.cell? ⟨w.heap.size,8,none⟩=some (.slice (some ⟨b,off,none⟩) k r)/\W.cell? ⟨b,off+j*7,none⟩=some (.string y.s)/\W.cell? ⟨b,off+j*7+1,none⟩=some (.int .i64 y.e.k)/\W.cell? ⟨b,off+j*7+2,none⟩=some (.int .i64 y.e.a)/\W.cell? ⟨b,off+j*7+3,none⟩=some (.int .i64 y.e.b)/\W.cell? ⟨b,off+j*7+4,none⟩=some (.string y.e.s)/\W.cell? ⟨b,off+j*7+5,none⟩=some (.int .i64 y.e.n)/\W.cell? ⟨b,off+j*7+6,none⟩=some (.slice A5 n5 c5)) V):=fun V hV=>by
      have hV2:=zAA hBw hV;exact ⟨(HKB.out.below hV HKB.out.lt).cell 8,(hV2.cell (p:=⟨b,off+j*7,none⟩) hbl).trans (hc 0 _ rfl),(hV2.cell (p:=⟨b,off+j*7+1,none⟩) hbl).trans (hc 1 _ rfl),(hV2.cell (p:=⟨b,off+j*7+2,none⟩) hbl).trans (hc 2 _ rfl),(hV2.cell (p:=⟨b,off+j*7+3,none⟩) hbl).trans (hc 3 _ rfl),(hV2.cell (p:=⟨b,off+j*7+4,none⟩) hbl).trans (hc 4 _ rfl),(hV2.cell (p:=⟨b,off+j*7+5,none⟩) hbl).trans (hc 5 _ rfl),(hV2.cell (p:=⟨b,off+j*7+6,none⟩) hbl).trans (hc 6 _ rfl)⟩
     have hB:=bdr wr;have HKp:=Zh (HK.out _ hB);have HY:=Zh hy;have hcap:=HS.out.cap;have hmax:=HS.out.max;clear hRy hc hlk hy hX5 hSv;go_upto_region 10 with fail
     go_cut [12] from 29 to 64 (fun sv wx=>∃ (g:Nat) (cf:Int) (sf:ByteArray),sv=.pointer (some ⟨g,0,none⟩)/\Blk wx g 64 #[.int .i64 cf,.string sf]/\(cf=0 ↔ ztf st al ((x.rs.take j).map Eq1.s) y.s y.e)/\wr.heap.size<=g/\Below wr.heap.size wr wx)
     case first=>
       refine wp_region_held_drew (S:=(fun W=>W.cell? ⟨w.heap.size,8,none⟩=some (.slice (some ⟨b,off,none⟩) k r)/\W.cell? ⟨b,off+j*7,none⟩=some (.string y.s)/\W.cell? ⟨b,off+j*7+1,none⟩=some (.int .i64 y.e.k)/\W.cell? ⟨b,off+j*7+2,none⟩=some (.int .i64 y.e.a)/\W.cell? ⟨b,off+j*7+3,none⟩=some (.int .i64 y.e.b)/\W.cell? ⟨b,off+j*7+4,none⟩=some (.string y.e.s)/\W.cell? ⟨b,off+j*7+5,none⟩=some (.int .i64 y.e.n)/\W.cell? ⟨b,off+j*7+6,none⟩=some (.slice A5 n5 c5))) (by kernel_rfl) (HKp.out) (fun hH=>?_);generalize wr.drew=Wd at *;refine tkh 0 hH ?_;refine tkh 1 hH ?_;refine tkh 2 hH ?_;refine tkh 3 hH ?_;refine tkh 4 hH ?_;refine tkh 5 hH ?_;refine tkh 6 hH ?_;refine tkh 7 hH ?_;refine tkh 8 hH ?_;refine tkh 9 hH ?_;refine tkh 10 hH ?_;refine tkh 11 hH ?_;refine tkh 12 hH ?_;refine tkh 13 hH ?_;refine tkh 14 hH ?_;simp only [Act.put,sT,sZ,sS];refine Yj (rs:=[15,16]) (by kernel_rfl) (by simp) ?_;refine Yc (o:=⟨_,_,_,_,_,_⟩) rfl (fun K hK=>?_) ?_
       ·go_simp
        refine (HAS.out _ hB).mono ?_;rintro e3 V1 ⟨cf,sf,rfl,hpf,hc⟩
        have HPF:=Zh hpf;replace hB:=zAA hB hc;replace HKp:=Zh (HK.out _ hB)
        try replace HG:=Zh (HG.out.below hc HG.out.lt)
        clear hc hpf;go_wp2_with fail
        refine hK.out _ _ (HKp.out) (fun hH=>?_);clear hK K;refine rdh 16 (fun K hK=>?_)
        go_simp
        have HG:Hid (Blk (V1.alloc (.cells #[.int .i64 0,.string ⟨#[]⟩] 64)) V1.heap.size 64 #[.int .i64 0,.string ⟨#[]⟩]):=Blk.new _ _ _;have hc:=zAE V1 (.cells #[.int .i64 0,.string ⟨#[]⟩] 64);have hga:=hB.size;replace hB:=zAA hB hc;replace HKp:=Zh (HK.out _ hB);clear hc;generalize (V1.alloc (.cells #[.int .i64 0,.string ⟨#[]⟩] 64))=Y1 at *;refine hK.out _ _ (HKp.out) (fun hH=>?_);clear hK K;refine rdh 17 (fun K hK=>?_);have r0:=HG.out.cell 0;have r1:=HG.out.cell 1;have f0:=HG.out.frozen 0;have f1:=HG.out.frozen 1
        go_simp
        clear r0 r1 f0 f1;have HG2:=Zh (HG.out.set2 (.int .i64 cf) (.string sf));have hgz:wr.heap.size<=V1.heap.size:=by omega
        have hbe:=hB.trans (zm9 (B:=wr.heap.size) hgz (.int .i64 cf) (.string sf));generalize ((Y1.setCell ⟨V1.heap.size,0,none⟩ (.int .i64 cf)).setCell ⟨V1.heap.size,1,none⟩ (.string sf))=WE at *;replace HKp:=Zh (HK.out _ hbe);refine hK.out _ _ (HKp.out) (fun hH=>?_);clear hK K;refine wpAnyH_done (by kernel_rfl) ?_ _;go_wp2_with fail
        go_meet
        exact ⟨_,cf,sf,rfl,HG2.out,HPF.out,hgz,hbe⟩
       refine Yc (o:=⟨_,_,_,_,_,_⟩) rfl (fun K hK=>?_) Yd
       go_simp
       have HG:Hid (Blk (Wd.alloc (.cells #[.int .i64 0,.string ⟨#[]⟩] 64)) Wd.heap.size 64 #[.int .i64 0,.string ⟨#[]⟩]):=Blk.new _ _ _;have hc:=zAE Wd (.cells #[.int .i64 0,.string ⟨#[]⟩] 64);have hga:=hB.size;replace hB:=zAA hB hc;replace HKp:=Zh (HK.out _ hB);clear hc;generalize (Wd.alloc (.cells #[.int .i64 0,.string ⟨#[]⟩] 64))=Y2 at *;refine hK.out _ _ (HKp.out) (fun hH=>?_);clear hK K;refine rdh 15 (fun K hK=>?_)
       go_simp
       refine (HAS.out _ hB).mono ?_;rintro e3 V5 ⟨cf,sf,rfl,hpf,hc⟩
       have HPF:=Zh hpf;replace hB:=zAA hB hc;replace HKp:=Zh (HK.out _ hB)
       try replace HG:=Zh (HG.out.below hc HG.out.lt)
       clear hc hpf;go_wp2_with fail
       refine hK.out _ _ (HKp.out) (fun hH=>?_);clear hK K;refine rdh 17 (fun K hK=>?_);have r0:=HG.out.cell 0;have r1:=HG.out.cell 1;have f0:=HG.out.frozen 0;have f1:=HG.out.frozen 1
       go_simp
       clear r0 r1 f0 f1;have HG2:=Zh (HG.out.set2 (.int .i64 cf) (.string sf));have hgz:wr.heap.size<=Wd.heap.size:=by omega
       have hbe:=hB.trans (zm9 (B:=wr.heap.size) hgz (.int .i64 cf) (.string sf));generalize ((V5.setCell ⟨Wd.heap.size,0,none⟩ (.int .i64 cf)).setCell ⟨Wd.heap.size,1,none⟩ (.string sf))=WE at *;replace HKp:=Zh (HK.out _ hbe);refine hK.out _ _ (HKp.out) (fun hH=>?_);clear hK K;refine wpAnyH_done (by kernel_rfl) ?_ _;go_wp2_with fail
       go_meet
       exact ⟨_,cf,sf,rfl,HG2.out,HPF.out,hgz,hbe⟩
     case rest=>
      obtain ⟨g,cf,sf,rfl,hg,hp,hgz,hb3⟩:=hcut;have HG:=Zh hg;have HP:=Zh hp;have HB3:=Zh hb3;obtain ⟨x0,x1⟩:=zuB hg;clear hg hp hb3 HAS HKp hB;by_cases hcf:cf=0
      ·subst hcf
       have HJ2:=Zh (HJ.out.next HY.out (HP.out.1 rfl));obtain ⟨z0,z1,-⟩:=HK.out _ HB3.out;obtain ⟨W4,e4,hb4,k4⟩:=al1 wc #[.string y.s] 9;have hcn:=k4.cell 0;have HO4:=Zh (HO.out.below (zAA HB3.out hb4));have HB4:=Zh ((zAA HB.out (zAA HB3.out hb4)));have hs4:=HB4.out.size;clear hb4 k4 HK
       go_wp2_with (at_builtin;go_loud (refine zqa rfl _ _ rfl W2.heap.size (.slice Av _ cv) _ rfl HO4.out ⟨wc.heap.size,0,none⟩ 1 y.s rfl hcn (by rw [hlj];omega) (by omega) ?_))
       intro A' c' w5 hO5 hb5
       try rw [hlj] at hO5
       have HO5:=Zh hO5;have HB5:=Zh (HB4.out.trans hb5);clear hO5 hb5;go_wp2_with fail
       refine ⟨⟨j+1,by omega,by go_num,?_,HJ2.out,HB5.out⟩,by simp [intOf];omega⟩;have e:((x.rs.take (j+1)).map Eq1.s)=((x.rs.take j).map Eq1.s)++[y.s]:=by rw [List.take_add_one,HY.out];simp
       rw [e]
       first | exact HO5.out | (rw [List.map_take];exact HO5.out)
      ·have hce:(cf == 0)=false:=by simpa using hcf
       have hNo:¬ ztf st al ((x.rs.take j).map Eq1.s) y.s y.e:=fun h=>hcf (HP.out.2 h)
       have HNo:=Zh (fun (h:zt7 st al md x)=>hNo (zt9 h.2.2 HY.out));have k9:=HKR.out.below HB3.out HKR.out.lt;have c0:=k9.cell 0;have c1:=k9.cell 1;have f0:=k9.frozen 0;have f1:=k9.frozen 1;have K9:=Zh (k9.set2 (.int .i64 cf) (.string sf));have HB9:=Zh ((zAA hBw HB3.out).trans (k9.bel2 (B:=w.heap.size) (by omega) (.int .i64 cf) (.string sf)));clear k9 hNo;go_wp2_with fail
       exact zrd Tryz.results75 rfl K9.out ⟨fun h=>absurd h hcf,fun h=>absurd h HNo.out⟩ HB9.out
    ·have hjk:k=j:=by omega
     subst hjk;have HGA:=Zh (HJ.out.all (by rw [HS.out.len];exact Ya _));have HY:Hid (zt7 st al md x):=⟨HTo.out,HKk.out,HGA.out⟩;have c0:=(HKR.out).cell 0;have c1:=(HKR.out).cell 1;have f0:=(HKR.out).frozen 0;have f1:=(HKR.out).frozen 1;have K9:=Zh ((HKR.out).set2 (.int .i64 0) (.string ⟨#[]⟩));have HB9:=Zh ((hBw).trans ((HKR.out).bel2 (B:=w.heap.size) (by omega) (.int .i64 0) (.string ⟨#[]⟩)));go_wp2_with fail
     exact zrd Tryz.results75 rfl K9.out ⟨fun _=>HY.out,fun _=>rfl⟩ HB9.out
  ·have hce:(cc == 0)=false:=by simpa using hcc
   have HNo:Hid (¬ zt7 st al md x):=fun h=>hcc (HPK.out.2 h.2.1)
   have c0:=KR2.out.cell 0;have c1:=KR2.out.cell 1;have f0:=KR2.out.frozen 0;have f1:=KR2.out.frozen 1;have K9:=Zh (KR2.out.set2 (.int .i64 cc) (.string ss));have HB9:=Zh (HB2.out.trans (KR2.out.bel2 (B:=w.heap.size) (by omega) (.int .i64 cc) (.string ss)));go_wp2_with fail
   exact zrd Tryz.results75 rfl K9.out ⟨fun h=>absurd h hcc,fun h=>absurd h HNo.out⟩ HB9.out
 ·have g1':r1<0:=by omega
  have HNo:Hid (¬ zt7 st al md x):=fun h=>g1 (HM1.out.2 h.1)
  clear g1;go_enter Tryz.func75,Tryz.ntmps75
  go_wp2_with fail
  clear e0;refine HP1.out.mono ?_;rintro e w' ⟨rfl,hw'⟩
  obtain rfl:=hw'.symm;go_wp2_with fail
  refine (zqc _ _ _).mono ?_;rintro e w9 ⟨rfl,hb9⟩
  have k9:=KR.out.below hb9 (KR.out).lt;have c0:=k9.cell 0;have c1:=k9.cell 1;have f0:=k9.frozen 0;have f1:=k9.frozen 1;have K9:=Zh (k9.set2 (.int .i64 7) (.string x.to));have HB9:=Zh ((zAA (HB0.out) hb9).trans (k9.bel2 (B:=w.heap.size) (by omega) (.int .i64 7) (.string x.to)));clear k9 hb9;go_wp2_with fail
  exact zrd Tryz.results75 rfl K9.out ⟨fun h=>absurd h (by decide),fun h=>absurd h HNo.out⟩ HB9.out
theorem zrk {st al md:List ByteArray}{m:Md}:ztF st al md m ↔ zrm st al m.flow/\(∀s∈st,s∈m.flow.map Eq1.s)/\∀x∈m.edges,zt7 st al md x:=
 ⟨fun h=>⟨h.flow,h.all,fun x hx=>⟨h.to x hx,h.guard x hx,h.resets x hx⟩⟩,fun h=>⟨h.1,h.2.1,fun x hx=>(h.2.2 x hx).1,fun x hx=>(h.2.2 x hx).2.1,fun x hx=>(h.2.2 x hx).2.2⟩⟩
structure FlE (x:Ed):Prop where
 g:x.g.flat.length<=800
 rs:∀y∈x.rs,y.e.flat.length<=800
 len:x.rs.length<=4
structure FlM (m:Md):Prop where
 flow:∀y∈m.flow,y.e.flat.length<=800
 len:m.flow.length<=4
 edges:∀x∈m.edges,FlE x
 elen:m.edges.length<=4
theorem zs8 (A B C:Option Addr) (n c m p i q:Nat) (st al md:List ByteArray) (F:Nat->Prop) (d:Nat) (us:List Value) (x:Md) (w:World) (h1:Sl 1 zql w A n c st) (h2:Sl 1 zql w B m p al) (h3:Sl 1 zql w C i q md) (hx:RMd F d w us x) (hF:∀b,F b->b<w.heap.size) (hfl:FlM x) :
  Calls Tryz.prog 45 #[.slice A n c,.slice B m p,.slice C i q,.agg us.toArray] w (zpF (ztF st al md x) w):=by
 obtain ⟨E,k,r,E2,k2,r2,rfl,hS,hT⟩:=hx;obtain ⟨W2,e0,hb0,kb,kr⟩:=al2 w #[.string x.s,.slice E k r,.slice E2 k2 r2] 60 #[.int .i64 0,.string ⟨#[]⟩] 64;obtain ⟨q0,q1,q2⟩:=zrc kb;have H1:=Zh (fun W (hb:Below w.heap.size w W)=>h1.next zqW hb);have H2:=Zh (fun W (hb:Below w.heap.size w W)=>h2.next zqW hb);have H3:=Zh (fun W (hb:Below w.heap.size w W)=>h3.next zqW hb);have hn1:=h1.cap;have hm1:=h1.max;have HL1:=Zh h1.len;have HS:=Zh hS;have HT:=Zh hT;have HZ:=Zh hfl.flow;have HZE:=Zh hfl.edges;have HF:=Zh hF;have HK4:k<=4:=by rw [<- hS.len];exact hfl.len
 have HK5:k2<=4:=by rw [<- hT.len];exact hfl.elen
 have KB2:=Zh kb;have KR2:=Zh kr;have HB2:=Zh hb0;have hsz2:=hb0.size;have hsl:=kr.lt;clear h1 h2 h3 hS hT hF hfl kb kr hb0;go_enter Tryz.func45,Tryz.ntmps45
 go_wp2_with fail
 clear e0
 go_loopw [9,10] (fun vo vi wr=>∃j:Nat,j<=k/\vi=.int .i64 j/\Hid (zqq wr W2.heap.size vo ((x.flow.take j).map Eq1.s))/\Hid (zsL st al x.flow j)/\Hid (Below W2.heap.size W2 wr)) (fun _ vi _=>k - (intOf vi).toNat)
 case atStart=>exact ⟨0,Nat.zero_le _,rfl,zqq.nil _ _,zsL.zero _ _ _,Yp _ _⟩
 case round=>
  obtain ⟨j,hj,rfl,HO,HJ,HB⟩:=hrel;have hsz:=HB.out.size;have hBw:=zAA HB2.out HB.out;have HKB:=Zh (KB2.out.below HB.out (KB2.out).lt);have HKR:=Zh (KR2.out.below HB.out (KR2.out).lt);have hlj:((x.flow.take j).map Eq1.s).length=j:=by rw [Xe,Yr,HS.out.len];omega
  obtain ⟨Av,cv,hv,hSv⟩:=HO.out.sl;rw [hlj] at hv hSv;subst hv;have z0:=HKB.out.cell 1;by_cases hlt:j<k
  ·obtain ⟨b,off,y,vs,rfl,hbl,hy,hlk,hRy,hc⟩:=HS.out.get hlt
   obtain ⟨A5,n5,c5,rfl,hX5⟩:=hRy.open;have HAS:=Zh (fun (W:World) (hb:Below wr.heap.size wr W)=>zq9 _ _ _ _ _ _ _ _ _ st al ((x.flow.take j).map Eq1.s) y.s F d _ y.e W (H1.out W (zAA hBw hb)) (H2.out W (zAA hBw hb)) (hSv.next zqW hb) (zqX F d _ _ _ _ hX5 (zAA hBw hb)) (fun b hb2=>Yh (HF.out b hb2) (zAA hBw hb).size) (HZ.out y (Yk hy)));have HK:Hid (∀V,Below wr.heap.size wr V->(fun W=>W.cell? ⟨w.heap.size,1,none⟩=some (.slice (some ⟨b,off,none⟩) k r)/\W.cell? ⟨b,off+j*7,none⟩=some (.string y.s)/\W.cell? ⟨b,off+j*7+1,none⟩=some (.int .i64 y.e.k)/\W.cell? ⟨b,off+j*7+2,none⟩=some (.int .i64 y.e.a)/\W.cell? ⟨b,off+j*7+3,none⟩=some (.int .i64 y.e.b)/\W.cell? ⟨b,off+j*7+4,none⟩=some (.string y.e.s)/\W.cell? ⟨b,off+j*7+5,none⟩=some (.int .i64 y.e.n)/\W.cell? ⟨b,off+j*7+6,none⟩=some (.slice A5 n5 c5)) V):=fun V hV=>by
    have hV2:=zAA hBw hV;exact ⟨(HKB.out.below hV HKB.out.lt).cell 1,(hV2.cell (p:=⟨b,off+j*7,none⟩) hbl).trans (hc 0 _ rfl),(hV2.cell (p:=⟨b,off+j*7+1,none⟩) hbl).trans (hc 1 _ rfl),(hV2.cell (p:=⟨b,off+j*7+2,none⟩) hbl).trans (hc 2 _ rfl),(hV2.cell (p:=⟨b,off+j*7+3,none⟩) hbl).trans (hc 3 _ rfl),(hV2.cell (p:=⟨b,off+j*7+4,none⟩) hbl).trans (hc 4 _ rfl),(hV2.cell (p:=⟨b,off+j*7+5,none⟩) hbl).trans (hc 5 _ rfl),(hV2.cell (p:=⟨b,off+j*7+6,none⟩) hbl).trans (hc 6 _ rfl)⟩
   have hB:=bdr wr;have HKp:=Zh (HK.out _ hB);have HY:=Zh hy;have hcap:=HS.out.cap;have hmax:=HS.out.max;clear hRy hc hlk hy hX5 hSv;go_upto_region 5 with fail
   go_cut [11] from 15 to 50 (fun sv wx=>∃ (g:Nat) (cf:Int) (sf:ByteArray),sv=.pointer (some ⟨g,0,none⟩)/\Blk wx g 64 #[.int .i64 cf,.string sf]/\(cf=0 ↔ ztf st al ((x.flow.take j).map Eq1.s) y.s y.e)/\wr.heap.size<=g/\Below wr.heap.size wr wx)
   case first=>
     refine wp_region_held_drew (S:=(fun W=>W.cell? ⟨w.heap.size,1,none⟩=some (.slice (some ⟨b,off,none⟩) k r)/\W.cell? ⟨b,off+j*7,none⟩=some (.string y.s)/\W.cell? ⟨b,off+j*7+1,none⟩=some (.int .i64 y.e.k)/\W.cell? ⟨b,off+j*7+2,none⟩=some (.int .i64 y.e.a)/\W.cell? ⟨b,off+j*7+3,none⟩=some (.int .i64 y.e.b)/\W.cell? ⟨b,off+j*7+4,none⟩=some (.string y.e.s)/\W.cell? ⟨b,off+j*7+5,none⟩=some (.int .i64 y.e.n)/\W.cell? ⟨b,off+j*7+6,none⟩=some (.slice A5 n5 c5))) (by kernel_rfl) (HKp.out) (fun hH=>?_);generalize wr.drew=Wd at *;refine tkh 0 hH ?_;refine tkh 1 hH ?_;refine tkh 2 hH ?_;refine tkh 3 hH ?_;refine tkh 4 hH ?_;refine tkh 5 hH ?_;refine tkh 6 hH ?_;refine tkh 7 hH ?_;refine tkh 8 hH ?_;refine tkh 9 hH ?_;refine tkh 10 hH ?_;refine tkh 11 hH ?_;refine tkh 12 hH ?_;refine tkh 13 hH ?_;refine tkh 14 hH ?_;simp only [Act.put,sT,sZ,sS];refine Yj (rs:=[15,16]) (by kernel_rfl) (by simp) ?_;refine Yc (o:=⟨_,_,_,_,_,_⟩) rfl (fun K hK=>?_) ?_
     ·go_simp
      refine (HAS.out _ hB).mono ?_;rintro e3 V1 ⟨cf,sf,rfl,hpf,hc⟩
      have HPF:=Zh hpf;replace hB:=zAA hB hc;replace HKp:=Zh (HK.out _ hB)
      try replace HG:=Zh (HG.out.below hc HG.out.lt)
      clear hc hpf;go_wp2_with fail
      refine hK.out _ _ (HKp.out) (fun hH=>?_);clear hK K;refine rdh 16 (fun K hK=>?_)
      go_simp
      have HG:Hid (Blk (V1.alloc (.cells #[.int .i64 0,.string ⟨#[]⟩] 64)) V1.heap.size 64 #[.int .i64 0,.string ⟨#[]⟩]):=Blk.new _ _ _;have hc:=zAE V1 (.cells #[.int .i64 0,.string ⟨#[]⟩] 64);have hga:=hB.size;replace hB:=zAA hB hc;replace HKp:=Zh (HK.out _ hB);clear hc;generalize (V1.alloc (.cells #[.int .i64 0,.string ⟨#[]⟩] 64))=Y1 at *;refine hK.out _ _ (HKp.out) (fun hH=>?_);clear hK K;refine rdh 17 (fun K hK=>?_);have r0:=HG.out.cell 0;have r1:=HG.out.cell 1;have f0:=HG.out.frozen 0;have f1:=HG.out.frozen 1
      go_simp
      clear r0 r1 f0 f1;have HG2:=Zh (HG.out.set2 (.int .i64 cf) (.string sf));have hgz:wr.heap.size<=V1.heap.size:=by omega
      have hbe:=hB.trans (zm9 (B:=wr.heap.size) hgz (.int .i64 cf) (.string sf));generalize ((Y1.setCell ⟨V1.heap.size,0,none⟩ (.int .i64 cf)).setCell ⟨V1.heap.size,1,none⟩ (.string sf))=WE at *;replace HKp:=Zh (HK.out _ hbe);refine hK.out _ _ (HKp.out) (fun hH=>?_);clear hK K;refine wpAnyH_done (by kernel_rfl) ?_ _;go_wp2_with fail
      go_meet
      exact ⟨_,cf,sf,rfl,HG2.out,HPF.out,hgz,hbe⟩
     refine Yc (o:=⟨_,_,_,_,_,_⟩) rfl (fun K hK=>?_) Yd
     go_simp
     have HG:Hid (Blk (Wd.alloc (.cells #[.int .i64 0,.string ⟨#[]⟩] 64)) Wd.heap.size 64 #[.int .i64 0,.string ⟨#[]⟩]):=Blk.new _ _ _;have hc:=zAE Wd (.cells #[.int .i64 0,.string ⟨#[]⟩] 64);have hga:=hB.size;replace hB:=zAA hB hc;replace HKp:=Zh (HK.out _ hB);clear hc;generalize (Wd.alloc (.cells #[.int .i64 0,.string ⟨#[]⟩] 64))=Y2 at *;refine hK.out _ _ (HKp.out) (fun hH=>?_);clear hK K;refine rdh 15 (fun K hK=>?_)
     go_simp
     refine (HAS.out _ hB).mono ?_;rintro e3 V5 ⟨cf,sf,rfl,hpf,hc⟩
     have HPF:=Zh hpf;replace hB:=zAA hB hc;replace HKp:=Zh (HK.out _ hB)
     try replace HG:=Zh (HG.out.below hc HG.out.lt)
     clear hc hpf;go_wp2_with fail
     refine hK.out _ _ (HKp.out) (fun hH=>?_);clear hK K;refine rdh 17 (fun K hK=>?_);have r0:=HG.out.cell 0;have r1:=HG.out.cell 1;have f0:=HG.out.frozen 0;have f1:=HG.out.frozen 1
     go_simp
     clear r0 r1 f0 f1;have HG2:=Zh (HG.out.set2 (.int .i64 cf) (.string sf));have hgz:wr.heap.size<=Wd.heap.size:=by omega
     have hbe:=hB.trans (zm9 (B:=wr.heap.size) hgz (.int .i64 cf) (.string sf));generalize ((V5.setCell ⟨Wd.heap.size,0,none⟩ (.int .i64 cf)).setCell ⟨Wd.heap.size,1,none⟩ (.string sf))=WE at *;replace HKp:=Zh (HK.out _ hbe);refine hK.out _ _ (HKp.out) (fun hH=>?_);clear hK K;refine wpAnyH_done (by kernel_rfl) ?_ _;go_wp2_with fail
     go_meet
     exact ⟨_,cf,sf,rfl,HG2.out,HPF.out,hgz,hbe⟩
   case rest=>
    obtain ⟨g,cf,sf,rfl,hg,hp,hgz,hb3⟩:=hcut;have HG:=Zh hg;have HP:=Zh hp;have HB3:=Zh hb3;obtain ⟨x0,x1⟩:=zuB hg;clear hg hp hb3 HAS HKp hB;by_cases hcf:cf=0
    ·subst hcf
     have HJ2:=Zh (HJ.out.next HY.out (HP.out.1 rfl));obtain ⟨z0,z1,-⟩:=HK.out _ HB3.out;obtain ⟨W4,e4,hb4,k4⟩:=al1 wc #[.string y.s] 9;have hcn:=k4.cell 0;have HO4:=Zh (HO.out.below (zAA HB3.out hb4));have HB4:=Zh ((zAA HB.out (zAA HB3.out hb4)));have hs4:=HB4.out.size;clear hb4 k4 HK
     go_wp2_with (at_builtin;go_loud (refine zqa rfl _ _ rfl W2.heap.size (.slice Av _ cv) _ rfl HO4.out ⟨wc.heap.size,0,none⟩ 1 y.s rfl hcn (by rw [hlj];omega) (by omega) ?_))
     intro A' c' w5 hO5 hb5
     try rw [hlj] at hO5
     have HO5:=Zh hO5;have HB5:=Zh (HB4.out.trans hb5);clear hO5 hb5;go_wp2_with fail
     refine ⟨⟨j+1,by omega,by go_num,?_,HJ2.out,HB5.out⟩,by simp [intOf];omega⟩;have e:((x.flow.take (j+1)).map Eq1.s)=((x.flow.take j).map Eq1.s)++[y.s]:=by rw [List.take_add_one,HY.out];simp
     rw [e]
     first | exact HO5.out | (rw [List.map_take];exact HO5.out)
    ·have hce:(cf == 0)=false:=by simpa using hcf
     have hNo:¬ ztf st al ((x.flow.take j).map Eq1.s) y.s y.e:=fun h=>hcf (HP.out.2 h)
     have HNo:=Zh (fun (h:ztF st al md x)=>hNo (zt9 h.flow HY.out));have k9:=HKR.out.below HB3.out HKR.out.lt;have c0:=k9.cell 0;have c1:=k9.cell 1;have f0:=k9.frozen 0;have f1:=k9.frozen 1;have K9:=Zh (k9.set2 (.int .i64 cf) (.string sf));have HB9:=Zh ((zAA hBw HB3.out).trans (k9.bel2 (B:=w.heap.size) (by omega) (.int .i64 cf) (.string sf)));clear k9 hNo;go_wp2_with fail
     exact zrd Tryz.results45 rfl K9.out ⟨fun h=>absurd h hcf,fun h=>absurd h HNo.out⟩ HB9.out
  ·have hjk:k=j:=by omega
   subst hjk;have HGA:=Zh (HJ.out.all (by rw [HS.out.len];exact Ya _));have htk:x.flow.take k=x.flow:=Xd (by rw [HS.out.len];exact Ya _);rw [htk] at hSv;have HSv:=Zh hSv;have HBw:=Zh hBw;have HKR3:=Zh HKR.out;have HKB3:=Zh HKB.out;clear hSv htk HJ HO HKR HKB HB hBw;have hszr:=HBw.out.size;clear q0 q1 q2;go_wp2_with fail
   clear z0;generalize wr=W3 at *
   go_loopw [12] (fun vi wr=>∃j:Nat,j<=n/\vi=.int .i64 j/\Hid (∀q y,q<j->st[q]? = some y->y∈x.flow.map Eq1.s)/\wr=W3) (fun vi _=>n - (intOf vi).toNat)
   case atStart=>exact ⟨0,Nat.zero_le _,rfl,fun q y hq=>absurd hq (by omega),rfl⟩
   case round=>
    obtain ⟨j,hj,rfl,HQ,hwr⟩:=hrel;obtain rfl:=hwr.symm;by_cases hlt:j<n
    ·obtain ⟨b,off,y,vs,rfl,hbl,hy,hk,hR,hc⟩:=(H1.out W3 HBw.out).get hlt
     unfold zql at hR;subst hR;have q0:=hc 0 _ rfl;rw [Nat.mul_one,Nat.add_zero] at q0;have HP:=Zh (zqx Av _ cv (x.flow.map Eq1.s) y W3 HSv.out);have hmem:=zqy y 0 (x.flow.map Eq1.s);generalize zrl y 0 (x.flow.map Eq1.s)=r1 at *;have HY:=Zh hy;have HM:=Zh hmem;clear hy hc hk hmem;by_cases hr:0<=r1
     ·have HQ2:Hid (∀q z,q<j+1->st[q]? = some z->z∈x.flow.map Eq1.s):=fun q z hq hz=>by
       by_cases hqj:q<j
       ·exact HQ.out q z hqj hz
       ·obtain rfl:q=j:=by omega
        rw [HY.out] at hz;injection hz with hz
        rw [<- hz];exact HM.out.1 hr
      go_wp2_with (go_at_call 72;refine HP.out.mono ?_;rintro e w' ⟨rfl,hw'⟩;obtain rfl:=hw'.symm)
      exact ⟨⟨j+1,by omega,by go_num,HQ2.out,trivial⟩,by simp [intOf];omega⟩
     ·have HNo:Hid (¬ ztF st al md x):=fun h=>hr (HM.out.2 (h.all y (Yk HY.out)))
      have hr':r1<0:=by omega
      clear hr
      go_wp2_with (go_at_call 72;refine HP.out.mono ?_;rintro e w' ⟨rfl,hw'⟩;obtain rfl:=hw'.symm)
      refine (zqc _ _ _).mono ?_;rintro e w9 ⟨rfl,hb9⟩
      have k9:=HKR3.out.below hb9 (HKR3.out).lt;have c0:=k9.cell 0;have c1:=k9.cell 1;have f0:=k9.frozen 0;have f1:=k9.frozen 1;have K9:=Zh (k9.set2 (.int .i64 3) (.string y));have HB9:=Zh ((zAA (HBw.out) hb9).trans (k9.bel2 (B:=w.heap.size) (by omega) (.int .i64 3) (.string y)));clear k9 hb9;go_wp2_with fail
      exact zrd Tryz.results45 rfl K9.out ⟨fun h=>absurd h (by decide),fun h=>absurd h HNo.out⟩ HB9.out
    ·obtain rfl:j=n:=by omega
     have HAll:Hid (∀s∈st,s∈x.flow.map Eq1.s):=fun s hs=>by
      obtain ⟨q,hq⟩:=List.mem_iff_getElem?.1 hs;exact HQ.out q s (by have:=(Yb.1 hq).1;have:=HL1.out;omega) hq
     clear HQ;obtain ⟨q0,q1,q2⟩:=zrc HKB3.out;go_wp2_with fail
     clear q0 q1 q2
     go_loopw [13] (fun vi wr=>∃j:Nat,j<=k2/\vi=.int .i64 j/\Hid (∀q y,q<j->x.edges[q]? = some y->zt7 st al md y)/\Hid (Below W3.heap.size W3 wr)) (fun vi _=>k2 - (intOf vi).toNat)
     case atStart=>exact ⟨0,Nat.zero_le _,rfl,fun q y hq=>absurd hq (by omega),Yp _ _⟩
     case round=>
      obtain ⟨j,hj,rfl,HQ,HB⟩:=hrel;have hBw:=zAA HBw.out HB.out;have HKR:=Zh (HKR3.out.below HB.out HKR3.out.lt);have hszB:=HB.out.size;obtain ⟨q0,q1,q2⟩:=zrc (HKB3.out.below HB.out HKB3.out.lt);by_cases hlt:j<k2
      ·obtain ⟨b,off,y,vs,rfl,hbl,hy,hlk,hRy,hc⟩:=HT.out.get hlt
       have hfy:=HZE.out y (Yk hy);have HEd:=Zh (zs0 _ _ _ _ _ _ _ _ _ st al md F d vs y wr (H1.out wr hBw) (H2.out wr hBw) (H3.out wr hBw) (zqw F d _ _ _ _ hRy hBw) (fun b hb=>Yh (HF.out b hb) hBw.size) hfy.g hfy.rs hfy.len);obtain ⟨A5,m5,c5,B5,n5,c6,rfl,-,-⟩:=hRy.open;have r0:=(hBw.cell (p:=⟨b,off+j*9,none⟩) hbl).trans (hc 0 _ rfl);have r1:=(hBw.cell (p:=⟨b,off+j*9+1,none⟩) hbl).trans (hc 1 _ rfl);have r2:=(hBw.cell (p:=⟨b,off+j*9+2,none⟩) hbl).trans (hc 2 _ rfl);have r3:=(hBw.cell (p:=⟨b,off+j*9+3,none⟩) hbl).trans (hc 3 _ rfl);have r4:=(hBw.cell (p:=⟨b,off+j*9+4,none⟩) hbl).trans (hc 4 _ rfl);have r5:=(hBw.cell (p:=⟨b,off+j*9+5,none⟩) hbl).trans (hc 5 _ rfl);have r6:=(hBw.cell (p:=⟨b,off+j*9+6,none⟩) hbl).trans (hc 6 _ rfl);have r7:=(hBw.cell (p:=⟨b,off+j*9+7,none⟩) hbl).trans (hc 7 _ rfl);have r8:=(hBw.cell (p:=⟨b,off+j*9+8,none⟩) hbl).trans (hc 8 _ rfl);have HY:=Zh hy;have hcap:=HT.out.cap;have hmax:=HT.out.max;clear hRy hc hlk hy hfy;go_wp2_with fail
       clear r0 r1 r2 r3 r4 r5 r6 r7 r8 q0 q1 q2;refine HEd.out.mono ?_;rintro e w5 ⟨cc,ss,rfl,hp,hb5⟩
       have HP:=Zh hp;obtain ⟨W6,e6,hb6,k6⟩:=al1 w5 #[.int .i64 cc,.string ss] 64;obtain ⟨x0,x1⟩:=zuB k6;have hb56:=zAA hb5 hb6;by_cases hcc:cc=0
       ·subst hcc
        have HQ2:Hid (∀q z,q<j+1->x.edges[q]? = some z->zt7 st al md z):=fun q z hq hz=>by
         by_cases hqj:q<j
         ·exact HQ.out q z hqj hz
         ·obtain rfl:q=j:=by omega
          rw [HY.out] at hz;injection hz with hz
          rw [<- hz];exact HP.out.1 rfl
        have HB6:=Zh (zAA HB.out hb56);clear hp hb5 hb6 k6 hb56;go_wp2_with fail
        exact ⟨⟨j+1,by omega,by go_num,HQ2.out,HB6.out⟩,by simp [intOf];omega⟩
       ·have hce:(cc == 0)=false:=by simpa using hcc
        have HNo:Hid (¬ ztF st al md x):=fun h=>hcc (HP.out.2 ((zrk.1 h).2.2 y (Yk HY.out)))
        have k9:=HKR.out.below hb56 HKR.out.lt;have c0:=k9.cell 0;have c1:=k9.cell 1;have f0:=k9.frozen 0;have f1:=k9.frozen 1;have K9:=Zh (k9.set2 (.int .i64 cc) (.string ss));have HB9:=Zh ((zAA hBw hb56).trans (k9.bel2 (B:=w.heap.size) (by omega) (.int .i64 cc) (.string ss)));clear hp hb5 hb6 k6 hb56 k9;go_wp2_with fail
        exact zrd Tryz.results45 rfl K9.out ⟨fun h=>absurd h hcc,fun h=>absurd h HNo.out⟩ HB9.out
      ·obtain rfl:j=k2:=by omega
       have HY:Hid (ztF st al md x):=zrk.2 ⟨HGA.out,HAll.out,fun y hy=>by
        obtain ⟨q,hq⟩:=List.mem_iff_getElem?.1 hy;exact HQ.out q y (by have:=(Yb.1 hq).1;have:=HT.out.len;omega) hq⟩
       have c0:=(HKR.out).cell 0;have c1:=(HKR.out).cell 1;have f0:=(HKR.out).frozen 0;have f1:=(HKR.out).frozen 1;have K9:=Zh ((HKR.out).set2 (.int .i64 0) (.string ⟨#[]⟩));have HB9:=Zh ((hBw).trans ((HKR.out).bel2 (B:=w.heap.size) (by omega) (.int .i64 0) (.string ⟨#[]⟩)));go_wp2_with fail
       exact zrd Tryz.results45 rfl K9.out ⟨fun _=>HY.out,fun _=>rfl⟩ HB9.out
end Go.Proofs.YtngjhigieajkmaaGreatDoor
end
