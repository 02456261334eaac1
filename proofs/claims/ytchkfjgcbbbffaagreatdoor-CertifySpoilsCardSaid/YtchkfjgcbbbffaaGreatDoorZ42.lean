/- Bundle 42: what the law's walk stands on: KitA, S9, S11, S17, S16. -/
import Derived.Test.YtchkfjgcbbbffaaGreatDoorZ3
import Derived.Test.YtchkfjgcbbbffaaGreatDoorZ14
import Derived.Test.YtchkfjgcbbbffaaGreatDoorZ15
set_option maxRecDepth 100000
set_option maxHeartbeats 20000000
set_option linter.all false
noncomputable section
namespace Go.Proofs.YtchkfjgcbbbffaaGreatDoor
open Go.ChangeShapes Go.WideShapes Go.ChangeAt Go.RowKit Go.Shelf Pl
theorem zSE {H:Type}{enc:TypeId×Value->H}{W:World}{b0:Nat}{v:Value}{d:DataW H}{p:List MemPlace}(hv:Value.okWide Tryz.prog W .any b0 41 v) (h:DataW.Trod enc Tryz.prog W 0 (fun _=>true) true 41 v d p) :
  ∃ (ng:Bool) (A:Option Addr) (n c:Nat) (l:List Nat) (ex:Int),v=.agg #[.bool ng,.slice A n c,.int .i64 ex]/\SL W A n c l:=by
 obtain ⟨u0,u1,u2,y0,y1,y2,m,rfl,_,_,hy0,hy1,hy2⟩:=Joins.open_agg3 Tryz.underlying41 (by kernel_rfl) zJV hv h;obtain ⟨ng,rfl⟩:=zKp hy0;obtain ⟨A,n,c,l,rfl,hS⟩:=zIG hy1;obtain ⟨ex,rfl⟩:=zLh hy2;exact ⟨ng,A,n,c,l,ex,rfl,hS⟩
def spX (x:Iv) (high:Bool) (d:Dy):Iv×Int:=if high then (⟨x.lo,(zHI x.hi d).1,x.all⟩,(zHI x.hi d).2) else (⟨(zCP x.lo d).1,x.hi,x.all⟩,(zCP x.lo d).2)
def spL (x:Lk) (j:Nat) (y:Iv):Lk:={ x with e:={ x.e with r:=x.e.r.set j y } }
def spC (x:Ct) (i j:Nat) (y:Iv):Ct:={ x with links:=match x.links[i]? with | some l=>x.links.set i (spL l j y) | none=>x.links }
def spG (x:Ct) (i j:Nat) (high:Bool) (d:Dy):Iv×Int:=match x.links[i]? with
 | some l=>(match l.e.r[j]? with | some y=>spX y high d | none=>(⟨zAZ,zAZ,false⟩,0))
 | none=>(⟨zAZ,zAZ,false⟩,0)
def spP (x:Ct) (i j:Int) (high:Bool) (d:Dy):Ct×Int:=
 if (ctV x && vld d && decide (0<zBP d))=false then (zC0,1)
 else if i<0\/(x.links.length:Int)<=i\/j<0\/(x.start.c.length:Int)<=j then (zC0,2)
 else if (spG x i.toNat j.toNat high d).2=0/\ctV (spC x i.toNat j.toNat (spG x i.toNat j.toNat high d).1)=true then (spC x i.toNat j.toNat (spG x i.toNat j.toNat high d).1,0) else (zC0,6)
theorem zVg {x:Ct}{i j:Int}{high:Bool}{d:Dy}(hl:(spP x i j high d).2=0->LmC (spP x i j high d).1):smC (spP x i j high d).1 (spP x i j high d).2 (spP x i j high d).1 (spP x i j high d).2=true:=by
 unfold spP at hl ⊢
 split
 ·exact zFl (by decide) _
 ·rename_i h1
  rw [if_neg h1] at hl
  split
  ·exact zFl (by decide) _
  ·rename_i h2
   rw [if_neg h2] at hl
   split
   ·rename_i hk
    rw [if_pos hk] at hl;exact zPH (hl rfl) hk.2
   ·exact zFl (by decide) _
theorem zeL {α:Type}{R:World->List Value->α->Prop}(hl:zJM R) (hR:HpO R) {w:World}{vs:List Value}{x:α}(h:R w vs x):On w.heap.size (fun b=>b<w.heap.size) w (fun W=>R W vs x):=fun W h1 h2=>
 hR { w with heap:=W.heap } W vs x rfl (hl w { w with heap:=W.heap } vs x h ⟨rfl,rfl,rfl,h1,h2⟩)
theorem zOv (vs:List Value) (d:Dy) (w:World) (h:RD w vs d) :
  Calls Tryz.prog 55 #[.agg vs.toArray] w fun e w'=>(∃s:Int,e=.returned (.int .i64 s)/\(vld d=true->s=zBP d))/\Below w.heap.size w w':=by
 obtain ⟨A,n,c,rfl,hs⟩:=h;obtain ⟨neg,l,x⟩:=d;dsimp only at hs ⊢;have HB:Hid (vld ⟨neg,l,x⟩=true->zBP ⟨neg,l,x⟩=if n≠0 then (if neg then -1 else 1) else 0):=fun hv=>by
  unfold zBP;simp only [zAL hs,hv,true_and]
 generalize vld ⟨neg,l,x⟩=v at *;generalize zBP ⟨neg,l,x⟩=r at *;by_cases h0:n=0
 ·subst h0
  go_enter Tryz.func55,Tryz.ntmps55
  go_wp2_with fail
  go_ret;exact ⟨⟨_,rfl,fun hv=>by rw [HB.out hv];rfl⟩,zAE _ _⟩
 ·have h0':((n:Int) == 0)=false:=by simp;omega
  cases neg
  all_goals
   go_enter Tryz.func55,Tryz.ntmps55
   go_wp2_with fail
   go_ret;exact ⟨⟨_,rfl,fun hv=>by rw [HB.out hv,if_pos h0];rfl⟩,zAE _ _⟩
structure zMU {α:Type}(e:TypeId) (k:Nat) (R:World->List Value->α->Prop) (E:Nat) (F:Nat->Prop) (w:World) (g:Nat) (cs:Array Value) (xs:List α):Prop where
 blk:Blk w g e cs
 size:xs.length*k<=cs.size
 each:∀ (j:Nat) (x:α),xs[j]? = some x->∃us:List Value,us.length=k/\(∀ (i:Nat) (v:Value),us[i]? = some v->cs[j*k+i]? = some v)/\On E F w (fun W=>R W us x)
section
variable {α:Type}{e:TypeId}{k:Nat}{R:World->List Value->α->Prop}{E E':Nat}{F F':Nat->Prop}{w w':World}{g:Nat}{cs:Array Value}{xs:List α}
theorem zMU.move (h:zMU e k R E F w g cs xs) (hg:w'.heap[g]? = w.heap[g]?) (hb:∀b,F b->w'.heap[b]? = w.heap[b]?):zMU e k R E F w' g cs xs:=
 ⟨hg.trans h.blk,h.size,fun j x hj=>by
  obtain ⟨us,h1,h2,h3⟩:=h.each j x hj;exact ⟨us,h1,h2,h3.move hb⟩⟩
theorem zMU.sl (h:zMU e k R E F w g cs xs) {n c:Nat}(hl:xs.length=n) (hc:n<=c) (hm:c<=9223372036854775807) (hE:E<=w.heap.size):Sl k R w (some ⟨g,0,none⟩) n c xs:=by
 refine ⟨hl,hc,hm,fun _=>⟨g,0,rfl,h.blk.lt,fun j x hj=>?_⟩⟩;obtain ⟨us,h1,h2,h3⟩:=h.each j x hj;refine ⟨us,h1,h3.here hE,fun i v hi=>?_⟩;rw [Nat.zero_add,h.blk.cell];exact h2 i v hi
theorem zMU.put (h:zMU e k R E F w g cs xs) {cs':Array Value}{j:Nat}{us:List Value}{y:α}(hu:us.length=k) (hb:Blk w' g e cs') (hs:cs'.size=cs.size) (hc:∀ (i:Nat) (v:Value),us[i]? = some v->cs'[j*k+i]? = some v)
  (ho:∀i,i<j*k\/j*k+k<=i->cs'[i]? = cs[i]?) (hF:∀b,F b->w'.heap[b]? = w.heap[b]?) (hE:E<=E') (hF':∀b,F b->F' b) (hy:On E' F' w' (fun W=>R W us y)):zMU e k R E' F' w' g cs' (xs.set j y):=by
 refine ⟨hb,by rw [List.length_set,hs];exact h.size,fun i x hi=>?_⟩;by_cases e:j=i
 ·subst e
  have hj:j<xs.length:=by have:=(Yb.1 hi).1;rw [List.length_set] at this;exact this
  rw [List.getElem?_set_self hj] at hi;injection hi with hi
  subst hi;exact ⟨us,hu,hc,hy⟩
 ·rw [List.getElem?_set_ne e] at hi
  obtain ⟨vs,h1,h2,h3⟩:=h.each i x hi;refine ⟨vs,h1,fun m v hm=>?_,(h3.move hF).sub hE hF'⟩;have hmk:m<k:=by have:=(Yb.1 hm).1;omega
  rw [ho _ ?_]
  ·exact h2 m v hm
  ·rcases Nat.lt_or_gt_of_ne e with hlt | hlt
   ·right
    have:(j+1)*k<=i*k:=Nat.mul_le_mul_right _ hlt;rw [Nat.succ_mul] at this;omega
   ·left
    have:(i+1)*k<=j*k:=Nat.mul_le_mul_right _ hlt;rw [Nat.succ_mul] at this;omega
end
def zBm (w:World) (b off:Nat):Nat->List Value
 | 0=>[]
 | m+1=>zBm w b off m++[(w.cell? ⟨b,off+m,none⟩).getD undef]
theorem zA8 (w:World) (b off:Nat):∀m,(zBm w b off m).length=m
 | 0=>rfl
 | m+1=>by rw [zBm,Yu,zA8 w b off m];rfl
theorem zDG (w:World) (b off:Nat):∀ (m i:Nat),i<m->(zBm w b off m)[i]? = some ((w.cell? ⟨b,off+i,none⟩).getD undef):=by
 intro m
 induction m with
 | zero=>intro i h;omega
 | succ m ih=>
  intro i h;rw [zBm];by_cases hi:i<m
  ·rw [Yw (by rw [zA8];exact hi)]
   exact ih i hi
  ·have:i=m:=by omega
   subst this;rw [Yx (by rw [zA8];exact Ya _),zA8,Nat.sub_self];rfl
theorem zOt {α:Type}{e:TypeId}{k:Nat}{R:World->List Value->α->Prop}{G:Nat->Prop}{w w':World}{b off n c base:Nat}{xs:List α}{v':Value}
  (h:On w.heap.size G w (fun W=>Sl k R W (some ⟨b,off,none⟩) n c xs)) (hk:0<k) (h0:∀W vs x,R W vs x->vs[0]? ≠ some (.int .u32 7)) (hn:0<n)
  (ho:w'.ownsRow base e k v' n (zBm w b off (n*k))) (hs:w.heap.size<=w'.heap.size) (hG:∀b,G b->w'.heap[b]? = w.heap[b]?) :
  ∃g cap cs,v' = .slice (some ⟨g,0,none⟩) n cap/\base<=g/\n<=cap/\cap<=9223372036854775807/\zMU e k R w.heap.size G w' g cs xs:=by
 rcases ho.2 with ⟨_,hz⟩ | ⟨g,cap,cur,e1,hbg,hg,h1,h2,h3,h4⟩
 ·omega
 ·refine ⟨g,cap,cur,e1,hbg,h1,by simpa [maxLen] using h2,hg,?_,fun j x hj=>?_⟩
  ·have hl:=(h.here (Ya _)).len
   rw [hl,h3];exact Nat.mul_le_mul_right _ h1
  ·have hjn:j<n:=by have:=(Yb.1 hj).1;have:=(h.here (Ya _)).len;omega
   obtain ⟨b',off',x',vs,eA,_,_,hx',hl,hc,hR⟩:=zOe h hk h0 hjn;injection eA with eA
   injection eA with e2 e3 _
   subst e2 e3;rw [hj] at hx';injection hx' with hx'
   subst hx';refine ⟨vs,hl,fun i v hi=>?_,hR.move hG⟩;have hik:i<k:=by have:=(Yb.1 hi).1;omega
   have hlt:j*k+i<n*k:=by
    have:(j+1)*k<=n*k:=Nat.mul_le_mul_right _ hjn;rw [Nat.succ_mul] at this;omega
   have h5:=zDG w b off (n*k) (j*k+i) hlt;have h6:=hc i v hi;rw [Nat.add_assoc] at h6;rw [h6,<- h4,Xf hlt] at h5
   simpa using h5
theorem zJP (b off j:Nat):(⟨b,off,none⟩:Addr).add j=⟨b,off+j,none⟩:=by
 unfold Addr.add
 split
 ·subst_vars;rfl
 ·rfl
theorem zEt {α:Type}{k:Nat}{R:World->List Value->α->Prop}{w:World}{b off n c:Nat}{xs:List α}(h:Sl k R w (some ⟨b,off,none⟩) n c xs) (hk:0<k) (h1:∀W vs x,R W vs x->∀u∈vs,u.oneCell' = true) :
  (∀u∈zBm w b off (n*k),u.oneCell' = true)/\∀ (j:Nat) (u:Value),(zBm w b off (n*k))[j]? = some u->w.cell? ((⟨b,off,none⟩:Addr).add j)=some u:=by
 have key:∀j,j<n*k->∃u,w.cell? ⟨b,off+j,none⟩=some u/\u.oneCell' = true:=by
  intro j hj;have hq:j / k<n:=(Nat.div_lt_iff_lt_mul hk).2 hj;obtain ⟨b',off',x,vs,eA,_,_,hl,hR,hc⟩:=h.get hq;injection eA with eA
  injection eA with e2 e3 _
  subst e2 e3;have hm:j%k<vs.length:=by rw [hl];exact Nat.mod_lt _ hk
  refine ⟨vs[j%k],?_,h1 _ _ _ hR _ (List.getElem_mem hm)⟩;have:=hc (j%k) _ (Yo hm);rw [Nat.add_assoc,show j / k*k+j%k=j by rw [Nat.mul_comm];exact Nat.div_add_mod j k] at this;exact this
 constructor
 ·intro u hu
  obtain ⟨j,hj⟩:=List.mem_iff_getElem?.1 hu;have hl:=(Yb.1 hj).1;rw [zA8] at hl;obtain ⟨u',e1,e2⟩:=key j hl;rw [zDG w b off _ j hl,e1] at hj;injection hj with hj
  rw [<- hj];exact e2
 ·intro j u hj
  have hl:=(Yb.1 hj).1;rw [zA8] at hl;obtain ⟨u',e1,e2⟩:=key j hl;rw [zDG w b off _ j hl,e1] at hj;injection hj with hj
  rw [zJP,e1,<- hj];rfl
theorem zVS:∀W vs (x:Iv),RI W vs x->∀u∈vs,u.oneCell' = true:=by
 rintro W vs x ⟨A,n,c,B,m,d,rfl,_,_⟩ u hu
 simp at hu;rcases hu with rfl | rfl | rfl | rfl | rfl | rfl | rfl <;> rfl
theorem zVU:∀W vs (x:Lk),RL W vs x->∀u∈vs,u.oneCell' = true:=by
 rintro W vs x ⟨H,hn,hc,T,tn,tc,A,n,c,B,m,d,C,p,q,V,vn,vc,rfl,_⟩ u hu
 simp at hu;rcases hu with rfl | rfl | rfl | rfl | rfl | rfl | rfl | rfl <;> rfl
theorem zVi {z:Iv}{d:Dy}:spX z true d=(⟨z.lo,(zHI z.hi d).1,z.all⟩,(zHI z.hi d).2):=rfl
theorem zVh {z:Iv}{d:Dy}:spX z false d=(⟨(zCP z.lo d).1,z.hi,z.all⟩,(zCP z.lo d).2):=rfl
theorem zRq {x:Ct}{i j:Nat}{y:Lk}{z:Iv}(h1:x.links[i]? = some y) (h2:y.e.r[j]? = some z) (high:Bool) (d:Dy):spG x i j high d=spX z high d:=by
 unfold spG;rw [h1]
 show (match y.e.r[j]? with | some y=>spX y high d | none=>_)=_
 rw [h2]
theorem zDX {x:Ct}{i:Nat}{y:Lk}(h1:x.links[i]? = some y) (j:Nat) (z:Iv):spC x i j z = { x with links:=x.links.set i (spL y j z) }:=by
 unfold spC;rw [h1]
theorem zLW {x:Ct}{i j:Nat}{y:Lk}{z:Iv}(hx:BdC x) (h1:x.links[i]? = some y) (hz:BdI z):BdC { x with links:=x.links.set i (spL y j z) }:=by
 refine ⟨hx.s,fun l hl=>?_⟩;have hy:=hx.l y (Yk h1);rcases List.mem_or_eq_of_mem_set hl with hl | rfl
 ·exact hx.l l hl
 ·refine ⟨hy.h,hy.t,⟨hy.e.c,hy.e.a,fun v hv=>?_⟩,hy.v⟩
  rcases List.mem_or_eq_of_mem_set hv with hv | rfl
  ·exact hy.e.r v hv
  ·exact hz
theorem zRe {cs:Array Value}{p:Nat}{u0 u1 u2 u3 u4 u5 u6 a3 a4 a5:Value}(h:∀ (i:Nat) (v:Value),[u0,u1,u2,u3,u4,u5,u6][i]? = some v->cs[p+i]? = some v) :
  ∀ (i:Nat) (v:Value),[u0,u1,u2,a3,a4,a5,u6][i]? = some v->(((cs.setIfInBounds (p+3) a3).setIfInBounds (p+3+1) a4).setIfInBounds (p+3+2) a5)[p+i]? = some v:=by
 have hs:=(Yv.1 (h 6 u6 rfl)).1;intro i v hi
 match i,hi with
 | 0,hi=>
  simp at hi;subst hi;rw [Xb (by omega),Xb (by omega),Xb (by omega)];exact h 0 u0 rfl
 | 1,hi=>
  simp at hi;subst hi;rw [Xb (by omega),Xb (by omega),Xb (by omega)];exact h 1 u1 rfl
 | 2,hi=>
  simp at hi;subst hi;rw [Xb (by omega),Xb (by omega),Xb (by omega)];exact h 2 u2 rfl
 | 3,hi=>simp at hi;subst hi;simp [Array.getElem?_setIfInBounds];omega
 | 4,hi=>simp at hi;subst hi;simp [Array.getElem?_setIfInBounds];omega
 | 5,hi=>simp at hi;subst hi;simp [Array.getElem?_setIfInBounds];omega
 | 6,hi=>
  simp at hi;subst hi;rw [Xb (by omega),Xb (by omega),Xb (by omega)];exact h 6 u6 rfl
 | n+7,hi=>simp at hi
theorem zRf {cs:Array Value}{p:Nat}{u0 u1 u2 u3 u4 u5 u6 a0 a1 a2:Value}(h:∀ (i:Nat) (v:Value),[u0,u1,u2,u3,u4,u5,u6][i]? = some v->cs[p+i]? = some v) :
  ∀ (i:Nat) (v:Value),[a0,a1,a2,u3,u4,u5,u6][i]? = some v->(((cs.setIfInBounds p a0).setIfInBounds (p+1) a1).setIfInBounds (p+2) a2)[p+i]? = some v:=by
 have hs:=(Yv.1 (h 6 u6 rfl)).1;intro i v hi
 match i,hi with
 | 0,hi=>simp at hi;subst hi;simp [Array.getElem?_setIfInBounds];omega
 | 1,hi=>simp at hi;subst hi;simp [Array.getElem?_setIfInBounds];omega
 | 2,hi=>simp at hi;subst hi;simp [Array.getElem?_setIfInBounds];omega
 | 3,hi=>
  simp at hi;subst hi;rw [Xb (by omega),Xb (by omega),Xb (by omega)];exact h 3 u3 rfl
 | 4,hi=>
  simp at hi;subst hi;rw [Xb (by omega),Xb (by omega),Xb (by omega)];exact h 4 u4 rfl
 | 5,hi=>
  simp at hi;subst hi;rw [Xb (by omega),Xb (by omega),Xb (by omega)];exact h 5 u5 rfl
 | 6,hi=>
  simp at hi;subst hi;rw [Xb (by omega),Xb (by omega),Xb (by omega)];exact h 6 u6 rfl
 | n+7,hi=>simp at hi
theorem zIw {cs:Array Value}{p o:Nat}{a0 a1 a2:Value}(ho:p<=o) (ho2:o<=p+3):∀i,(∀j,j<7->i≠p+j)->(((cs.setIfInBounds o a0).setIfInBounds (o+1) a1).setIfInBounds (o+2) a2)[i]? = cs[i]?:=by
 intro i hi;have h0:=hi 0 (by omega);have h1:=hi 1 (by omega);have h2:=hi 2 (by omega);have h3:=hi 3 (by omega);have h4:=hi 4 (by omega);have h5:=hi 5 (by omega);rw [Xb (by omega),Xb (by omega),Xb (by omega)]
theorem zRV {w:World}{g o:Nat}(a0 a1 a2:Value):KR g w (((w.setCell ⟨g,o,none⟩ (a0)).setCell ⟨g,o+1,none⟩ (a1)).setCell ⟨g,o+2,none⟩ (a2)):=((KR.set o a0).trans (KR.set (o+1) a1)).trans (KR.set (o+2) a2)
theorem zNl {w:World}{g o:Nat}{t:TypeId}{cs:Array Value}(h:Blk w g t cs) (a0 a1 a2:Value):Blk (((w.setCell ⟨g,o,none⟩ (a0)).setCell ⟨g,o+1,none⟩ (a1)).setCell ⟨g,o+2,none⟩ (a2)) g t (((cs.setIfInBounds o a0).setIfInBounds (o+1) a1).setIfInBounds (o+2) a2):=((h.set_ o a0).set_ (o+1) a1).set_ (o+2) a2
theorem zMJ {w:World}{g o:Nat}(a0 a1 a2:Value):(((w.setCell ⟨g,o,none⟩ (a0)).setCell ⟨g,o+1,none⟩ (a1)).setCell ⟨g,o+2,none⟩ (a2)).heap.size=w.heap.size:=by simp [World.setCell]
theorem zNK (vs us:List Value) (x:Ct) (i j:Int) (high:Bool) (d:Dy) (w:World) (h:RC w vs x) (h':RD w us d) (hx:BdC x) (hd:Bd d) (ht:zBx w):Calls Tryz.prog 14 #[.agg vs.toArray,.int .i64 i,.int .i64 j,.bool high,.agg us.toArray] w (zVx (spP x i j high d) w):=by
 have hr:=h;have hrd:=h';obtain ⟨xA,xn,xc,xB,xm,xd,xC,xp,xq,xL,xln,xlc,rfl,g1,-,-,g4⟩:=h;obtain ⟨DA,dn,dc,rfl,hsd⟩:=h';have HT:=Zh (fun W (hb:Below w.heap.size w W)=>ht.next hb);have H1:=Zh (fun W (hb:Below w.heap.size w W)=>zBe _ x W (zAm w W _ _ hr hb) hx (ht.next hb));have H2:=Zh (fun W (hb:Below w.heap.size w W)=>zEl [.bool d.neg,.slice DA dn dc,.int .i64 d.e] d W (zAQ w W _ _ hrd hb) hd);have H3:=Zh (fun W (hb:Below w.heap.size w W)=>zRo [.bool d.neg,.slice DA dn dc,.int .i64 d.e] d W (zAQ w W _ _ hrd hb) hd);have H4:=Zh (fun (hv:ctV x=true) W (hb:Below w.heap.size w W)=>zHS _ x W (zAm w W _ _ hr hb) hx hv);have HSD:=Zh (fun W (hb:Below w.heap.size w W)=>hsd.below hb);have HX:=Zh hx;have HLN:=Zh g4.len;have HCN:=Zh g1.len;have htl:=ht.lt;have hdn:dn<=1000:=by have:=hsd.len;unfold Bd at hd;omega
 clear hr hrd hx ht hd hsd;have hW1:=zAE w (.cells #[.int .i64 x.prec,.int .i64 x.order,.slice xA xn xc,.slice xB xm xd,.slice xC xp xq,.slice xL xln xlc] 29);have hW2:=zAE (w.alloc (.cells #[.int .i64 x.prec,.int .i64 x.order,.slice xA xn xc,.slice xB xm xd,.slice xC xp xq,.slice xL xln xlc] 29)) (.cells #[.bool d.neg,.slice DA dn dc,.int .i64 d.e] 41);have hW3:=zAE ((w.alloc (.cells #[.int .i64 x.prec,.int .i64 x.order,.slice xA xn xc,.slice xB xm xd,.slice xC xp xq,.slice xL xln xlc] 29)).alloc (.cells #[.bool d.neg,.slice DA dn dc,.int .i64 d.e] 41)) (.cells #[.int .i64 0,.int .i64 0,.slice none 0 0,.slice none 0 0,.slice none 0 0,.slice none 0 0] 29);have hb0:=zAA (zAA hW1 hW2) hW3;have kx:=((Blk.new w 29 #[.int .i64 x.prec,.int .i64 x.order,.slice xA xn xc,.slice xB xm xd,.slice xC xp xq,.slice xL xln xlc]).next hW2).next hW3;have kd:=(Blk.newAt (w.alloc (.cells #[.int .i64 x.prec,.int .i64 x.order,.slice xA xn xc,.slice xB xm xd,.slice xC xp xq,.slice xL xln xlc] 29)) 41 #[.bool d.neg,.slice DA dn dc,.int .i64 d.e] (g:=w.heap.size+1) (by simp)).next hW3;have kr:Blk (((w.alloc (.cells #[.int .i64 x.prec,.int .i64 x.order,.slice xA xn xc,.slice xB xm xd,.slice xC xp xq,.slice xL xln xlc] 29)).alloc (.cells #[.bool d.neg,.slice DA dn dc,.int .i64 d.e] 41)).alloc (.cells #[.int .i64 0,.int .i64 0,.slice none 0 0,.slice none 0 0,.slice none 0 0,.slice none 0 0] 29)) (w.heap.size+1+1) 29 #[.int .i64 0,.int .i64 0,.slice none 0 0,.slice none 0 0,.slice none 0 0,.slice none 0 0]:=Blk.newAt _ _ _ (by simp);have hsz:(((w.alloc (.cells #[.int .i64 x.prec,.int .i64 x.order,.slice xA xn xc,.slice xB xm xd,.slice xC xp xq,.slice xL xln xlc] 29)).alloc (.cells #[.bool d.neg,.slice DA dn dc,.int .i64 d.e] 41)).alloc (.cells #[.int .i64 0,.int .i64 0,.slice none 0 0,.slice none 0 0,.slice none 0 0,.slice none 0 0] 29)).heap.size=w.heap.size+3:=by simp
 have hsz1:=Ys hsz.symm;clear hW1 hW2 hW3 hsz g1 g4;obtain ⟨cv,hcv⟩:∃cv,ctV x=cv:=⟨_,rfl⟩;obtain ⟨dv,hdv⟩:∃dv,vld d=dv:=⟨_,rfl⟩;obtain ⟨sg,hsg⟩:∃sg,zBP d=sg:=⟨_,rfl⟩;rw [hcv] at H1;rw [hdv] at H2;rw [hsg] at H3;have HCV:=Zh hcv;have HDV:=Zh hdv;have HSG:=Zh hsg;clear hcv hdv hsg;obtain ⟨p0,p1,p2,p3,p4,p5⟩:=kx.cells6;go_enter Tryz.func14,Tryz.ntmps14
 go_wp2_with fail
 generalize (((w.alloc (.cells #[.int .i64 x.prec,.int .i64 x.order,.slice xA xn xc,.slice xB xm xd,.slice xC xp xq,.slice xL xln xlc] 29)).alloc (.cells #[.bool d.neg,.slice DA dn dc,.int .i64 d.e] 41)).alloc (.cells #[.int .i64 0,.int .i64 0,.slice none 0 0,.slice none 0 0,.slice none 0 0,.slice none 0 0] 29))=W0 at *;refine (H1.out _ hb0).mono ?_;rintro e w1 ⟨rfl,hb1⟩
 clear p0 p1 p2 p3 p4 p5;have hs1:=hb1.size;replace kx:=kx.next hb1;replace kd:=kd.next hb1;replace kr:=kr.next hb1;replace hb0:=zAA hb0 hb1;clear hb1;cases cv
 ·clear kx kd
  have HP1:Hid (spP x i j high d=(zC0,1)):=by unfold Hid spP;rw [if_pos (by rw [HCV.out];rfl)]
  obtain ⟨r0,r1,r2,r3,r4,r5⟩:=(kr).cells6;have f0:=(kr).frozen 0;have f1:=(kr).frozen 1;have f2:=(kr).frozen 2;have f3:=(kr).frozen 3;have f4:=(kr).frozen 4;have f5:=(kr).frozen 5;have HRR:=Zh (kr);have HBB9:=Zh (hb0);go_wp2_with fail
  refine Yn (zBL Tryz.results14 rfl (HRR.out.set6 _ _ _ _ _ _)) rfl ?_;rw [HP1.out];exact ⟨_,rfl,rfl,zA3 _,zAS HBB9.out (by omega) _ _ _ _ _ _⟩
 obtain ⟨t0,t1,t2⟩:=kd.cells3;go_wp2_with fail
 refine (H2.out _ hb0).mono ?_;rintro e w1b ⟨rfl,hb1⟩
 clear t0 t1 t2;have hs1b:=hb1.size;replace kx:=kx.next hb1;replace kd:=kd.next hb1;replace kr:=kr.next hb1;replace hb0:=zAA hb0 hb1;clear hb1;cases dv
 ·clear kx kd
  have HP1:Hid (spP x i j high d=(zC0,1)):=by unfold Hid spP;rw [if_pos (by rw [HDV.out];simp)]
  obtain ⟨r0,r1,r2,r3,r4,r5⟩:=(kr).cells6;have f0:=(kr).frozen 0;have f1:=(kr).frozen 1;have f2:=(kr).frozen 2;have f3:=(kr).frozen 3;have f4:=(kr).frozen 4;have f5:=(kr).frozen 5;have HRR:=Zh (kr);have HBB9:=Zh (hb0);go_wp2_with fail
  refine Yn (zBL Tryz.results14 rfl (HRR.out.set6 _ _ _ _ _ _)) rfl ?_;rw [HP1.out];exact ⟨_,rfl,rfl,zA3 _,zAS HBB9.out (by omega) _ _ _ _ _ _⟩
 obtain ⟨t0,t1,t2⟩:=kd.cells3;go_wp2_with fail
 refine (H3.out _ hb0).mono ?_;rintro e w1c ⟨rfl,hb1⟩
 clear t0 t1 t2;have hs1c:=hb1.size;replace kx:=kx.next hb1;replace kd:=kd.next hb1;replace kr:=kr.next hb1;replace hb0:=zAA hb0 hb1;clear hb1;by_cases hsg:sg<=0
 ·clear kx kd
  have hsgn:¬ 0<sg:=by omega
  have HSN:=Zh hsgn;clear hsgn;have HP1:Hid (spP x i j high d=(zC0,1)):=by unfold Hid spP;rw [if_pos (by rw [HSG.out,Ye HSN.out];simp)]
  obtain ⟨r0,r1,r2,r3,r4,r5⟩:=(kr).cells6;have f0:=(kr).frozen 0;have f1:=(kr).frozen 1;have f2:=(kr).frozen 2;have f3:=(kr).frozen 3;have f4:=(kr).frozen 4;have f5:=(kr).frozen 5;have HRR:=Zh (kr);have HBB9:=Zh (hb0);go_wp2_with fail
  refine Yn (zBL Tryz.results14 rfl (HRR.out.set6 _ _ _ _ _ _)) rfl ?_;rw [HP1.out];exact ⟨_,rfl,rfl,zA3 _,zAS HBB9.out (by omega) _ _ _ _ _ _⟩
 have HOK:Hid (¬ (ctV x && vld d && decide (0<zBP d))=false):=by
  unfold Hid;rw [HCV.out,HDV.out,HSG.out,Yf (by omega)];decide
 obtain ⟨p0,p1,p2,p3,p4,p5⟩:=kx.cells6;by_cases hi0:i<0
 ·clear kx kd
  have HP1:Hid (spP x i j high d=(zC0,2)):=by unfold Hid spP;rw [if_neg HOK.out,if_pos (by exact .inl hi0)]
  obtain ⟨r0,r1,r2,r3,r4,r5⟩:=(kr).cells6;have f0:=(kr).frozen 0;have f1:=(kr).frozen 1;have f2:=(kr).frozen 2;have f3:=(kr).frozen 3;have f4:=(kr).frozen 4;have f5:=(kr).frozen 5;have HRR:=Zh (kr);have HBB9:=Zh (hb0);go_wp2_with fail
  refine Yn (zBL Tryz.results14 rfl (HRR.out.set6 _ _ _ _ _ _)) rfl ?_;rw [HP1.out];exact ⟨_,rfl,rfl,zA3 _,zAS HBB9.out (by omega) _ _ _ _ _ _⟩
 by_cases hi1:(xln:Int)<=i
 ·clear kx kd
  have HP1:Hid (spP x i j high d=(zC0,2)):=by unfold Hid spP;rw [if_neg HOK.out,if_pos (by rw [HLN.out];exact .inr (.inl hi1))]
  obtain ⟨r0,r1,r2,r3,r4,r5⟩:=(kr).cells6;have f0:=(kr).frozen 0;have f1:=(kr).frozen 1;have f2:=(kr).frozen 2;have f3:=(kr).frozen 3;have f4:=(kr).frozen 4;have f5:=(kr).frozen 5;have HRR:=Zh (kr);have HBB9:=Zh (hb0);go_wp2_with fail
  refine Yn (zBL Tryz.results14 rfl (HRR.out.set6 _ _ _ _ _ _)) rfl ?_;rw [HP1.out];exact ⟨_,rfl,rfl,zA3 _,zAS HBB9.out (by omega) _ _ _ _ _ _⟩
 by_cases hj0:j<0
 ·clear kx kd
  have HP1:Hid (spP x i j high d=(zC0,2)):=by unfold Hid spP;rw [if_neg HOK.out,if_pos (by exact .inr (.inr (.inl hj0)))]
  obtain ⟨r0,r1,r2,r3,r4,r5⟩:=(kr).cells6;have f0:=(kr).frozen 0;have f1:=(kr).frozen 1;have f2:=(kr).frozen 2;have f3:=(kr).frozen 3;have f4:=(kr).frozen 4;have f5:=(kr).frozen 5;have HRR:=Zh (kr);have HBB9:=Zh (hb0);go_wp2_with fail
  refine Yn (zBL Tryz.results14 rfl (HRR.out.set6 _ _ _ _ _ _)) rfl ?_;rw [HP1.out];exact ⟨_,rfl,rfl,zA3 _,zAS HBB9.out (by omega) _ _ _ _ _ _⟩
 by_cases hj1:(xn:Int)<=j
 ·clear kx kd
  have HP1:Hid (spP x i j high d=(zC0,2)):=by unfold Hid spP;rw [if_neg HOK.out,if_pos (by rw [HCN.out];exact .inr (.inr (.inr hj1)))]
  obtain ⟨r0,r1,r2,r3,r4,r5⟩:=(kr).cells6;have f0:=(kr).frozen 0;have f1:=(kr).frozen 1;have f2:=(kr).frozen 2;have f3:=(kr).frozen 3;have f4:=(kr).frozen 4;have f5:=(kr).frozen 5;have HRR:=Zh (kr);have HBB9:=Zh (hb0);go_wp2_with fail
  refine Yn (zBL Tryz.results14 rfl (HRR.out.set6 _ _ _ _ _ _)) rfl ?_;rw [HP1.out];exact ⟨_,rfl,rfl,zA3 _,zAS HBB9.out (by omega) _ _ _ _ _ _⟩
 go_wp2_with fail
 refine (H4.out HCV.out _ hb0).mono ?_;rintro e w2 ⟨us,M,Ts,Rs,rfl,hu6,hm,hML,hold,hb3⟩
 clear p0 p1 p2 p3 p4 p5 kx;have HPP:Hid (spP x i j high d=if (spG x i.toNat j.toNat high d).2=0/\ctV (spC x i.toNat j.toNat (spG x i.toNat j.toNat high d).1)=true then (spC x i.toNat j.toNat (spG x i.toNat j.toNat high d).1,0) else (zC0,6)):=by
  unfold Hid spP;rw [if_neg HOK.out,if_neg (by rw [HLN.out,HCN.out];omega)]
 obtain ⟨ii,rfl⟩:∃ii:Nat,i=(ii:Int):=⟨i.toNat,by omega⟩;obtain ⟨jj,rfl⟩:∃jj:Nat,j=(jj:Int):=⟨j.toNat,by omega⟩;simp only [Int.toNat_natCast] at HPP;obtain ⟨A,n,c,B,m,q,C,p,r,L,ln,lc,rfl,hon,hlk⟩:=hm.cells;clear hm hu6;have hii:ii<x.links.length:=by rw [HLN.out];omega
 have hxi:x.links[ii]? = some x.links[ii]:=Yo hii;have hmem:=List.getElem_mem hii;have hvy:=(zBM HCV.out).2.2.1 _ hmem;generalize x.links[ii]=y at *;have hlen:y.e.r.length=x.start.c.length:=by
  unfold lkV at hvy;simp only [Yi,Xa] at hvy;have hf:=hvy.1.1.2;unfold frV at hf;simp only [Yi,Xa] at hf;have:=hf.1.1.1.2;omega
 have hjj:jj<y.e.r.length:=by rw [hlen,HCN.out];omega
 have hyj:y.e.r[jj]? = some y.e.r[jj]:=Yo hjj;have hmz:=List.getElem_mem hjj;have HBZ:=Zh ((HX.out.l y hmem).e.r _ hmz);generalize y.e.r[jj]=z at *;rw [zRq hxi hyj] at HPP;have HXI:=Zh hxi;have HYJ:=Zh hyj;have hc:=zAE w2 (.cells #[.int .i64 x.prec,.int .i64 x.order,.slice A n c,.slice B m q,.slice C p r,.slice L ln lc] 29);have hs2:=hb3.size;replace kr:=kr.next hb3;replace kd:=kd.next hb3;replace hb0:=zAA hb0 hb3;have hon3:=On.km (N:=[]) hon (KM.of hc) (by simp);have hlk3:=hlk.below hc;obtain ⟨g,vs8,T,R,rfl,hgl,hgM,hT,hR,hcell,hm8⟩:=hlk3.get hxi;obtain ⟨H,hn,hcc,tn,tc,F1,f1n,f1c,F2,f2n,f2c,pp,qq,V,vn,vc,rfl,-,-,a3,-,a5⟩:=hm8.cells;have z6:=hcell 6 _ rfl;have mR:R∈Ts++Rs:=Yt.2 (.inr (Yk hR));have hRl:=a5.lt;have hRo:w.heap.size+3<=R:=by
  rcases Xj R (w.heap.size+3) with h | h
  ·exact absurd mR (hold R (by omega)).2
  ·exact h
 have hR2:=hML R (hlk3.sub _ mR);have hgrM:=(hold (w.heap.size+1+1) (by omega));obtain ⟨cs,hkb,hcs⟩:=a5.cells;obtain ⟨us7,hu7,hcell7,hon7⟩:=hcs jj z hyj;obtain ⟨A1,n1,c1,A2,n2,c2,hus,hs1',hs2'⟩:=hon7.here (Ya _);subst hus;have HS7:Hid (∀W,(w2.alloc (.cells #[.int .i64 x.prec,.int .i64 x.order,.slice A n c,.slice B m q,.slice C p r,.slice (some ⟨g,0,none⟩) ln lc] 29)).heap.size<=W.heap.size->(∀b,zDc (w2.alloc (.cells #[.int .i64 x.prec,.int .i64 x.order,.slice A n c,.slice B m q,.slice C p r,.slice (some ⟨g,0,none⟩) ln lc] 29)) M b->W.heap[b]? = (w2.alloc (.cells #[.int .i64 x.prec,.int .i64 x.order,.slice A n c,.slice B m q,.slice C p r,.slice (some ⟨g,0,none⟩) ln lc] 29)).heap[b]?)->SL W A1 n1 c1 z.lo.l/\SL W A2 n2 c2 z.hi.l):=fun W k1 k2=>by
  obtain ⟨A1',n1',c1',A2',n2',c2',e,l1,l2⟩:=hon7 W k1 k2;simp at e;obtain ⟨⟨rfl,rfl,rfl⟩,rfl,rfl,rfl⟩:=e;exact ⟨l1,l2⟩
 have hn1:n1<=1000:=by have:=hs1'.len;have:=HBZ.out.1;unfold Bd at this;omega
 have hn2:n2<=1000:=by have:=hs2'.len;have:=HBZ.out.2;unfold Bd at this;omega
 have kg:=Blk.new w2 29 #[.int .i64 x.prec,.int .i64 x.order,.slice A n c,.slice B m q,.slice C p r,.slice (some ⟨g,0,none⟩) ln lc];have kd3:=kd.next hc;have kr3:=kr.next hc;have hb3:=zAA hb0 hc;have hjp:jj<pp:=by rw [<- a3.1];exact hjj
 have hil:ii<ln:=by rw [<- hlk3.len];exact hii
 have hz1:(w2.alloc (.cells #[.int .i64 x.prec,.int .i64 x.order,.slice A n c,.slice B m q,.slice C p r,.slice (some ⟨g,0,none⟩) ln lc] 29)).heap.size=w2.heap.size+1:=by simp
 have hz2:=Ys hz1.symm;have HKB:=Zh hkb;have HC7:=Zh hcell7;have HON:=Zh hon3;have HLK:=Zh hlk3;have HRs:=Zh hR;have HA5:=Zh a5;have HKG:=Zh kg;have HKR:=Zh kr3;have HB3:=Zh hb3;have HGR:=Zh hgrM;have HML:=Zh hML;obtain ⟨t0,t1,t2⟩:=kd3.cells3;obtain ⟨s0,s1,s2,s3,s4,s5⟩:=kg.cells6;have HKD:=Zh kd3;have hnp1:¬ (ii:Int)<0:=by omega
 have hnp2:¬ (jj:Int)<0:=by omega
 have hmi:ii*8+4+2=ii*8+6:=rfl;have hSUB:=zI7 z.hi.neg d.neg A2 DA n2 c2 dn dc z.hi.l d.l z.hi.e d.e;have hADD:=zIO z.lo.neg d.neg A1 DA n1 c1 dn dc z.lo.l d.l z.lo.e d.e;have HSUB:=Zh (fun W (hW:Below (w2.alloc (.cells #[.int .i64 x.prec,.int .i64 x.order,.slice A n c,.slice B m q,.slice C p r,.slice (some ⟨g,0,none⟩) ln lc] 29)).heap.size (w2.alloc (.cells #[.int .i64 x.prec,.int .i64 x.order,.slice A n c,.slice B m q,.slice C p r,.slice (some ⟨g,0,none⟩) ln lc] 29)) W)=>hSUB W (HS7.out W hW.size (fun b hb=>hW.block b hb.1)).2 (HSD.out W (zAA HB3.out hW)) (HT.out W (zAA HB3.out hW)) (by omega) (by omega));have HADD:=Zh (fun W (hW:Below (w2.alloc (.cells #[.int .i64 x.prec,.int .i64 x.order,.slice A n c,.slice B m q,.slice C p r,.slice (some ⟨g,0,none⟩) ln lc] 29)).heap.size (w2.alloc (.cells #[.int .i64 x.prec,.int .i64 x.order,.slice A n c,.slice B m q,.slice C p r,.slice (some ⟨g,0,none⟩) ln lc] 29)) W)=>hADD W (HS7.out W hW.size (fun b hb=>hW.block b hb.1)).1 (HSD.out W (zAA HB3.out hW)) (HT.out W (zAA HB3.out hW)) (by omega) (by omega));have HLM:=Zh (And.intro hs1'.lt (And.intro hs2'.lt (HSD.out _ HB3.out).lt));clear hvy hlen hmem hmz hxi hyj hb3 hc hon hlk hon3 hlk3 hcell hm8 a3 a5 hkb hcs hon7 hs1' hs2' kd kr hcell7 hR hT hb0 kg kd3 kr3 hgrM hML hold hSUB hADD;cases high
 ·go_wp2_with fail
  clear t0 t1 t2 s0 s1 s2 s3 s4 s5 z6 hmi;generalize (w2.alloc (.cells #[.int .i64 x.prec,.int .i64 x.order,.slice A n c,.slice B m q,.slice C p r,.slice (some ⟨g,0,none⟩) ln lc] 29))=W3 at *;have HK:Hid (∀V,Below W3.heap.size W3 V->(fun V=>V.cell? ⟨w.heap.size+1,0,none⟩=some (.bool d.neg)/\V.cell? ⟨w.heap.size+1,1,none⟩=some (.slice DA dn dc)/\V.cell? ⟨w.heap.size+1,2,none⟩=some (.int .i64 d.e)) V):=fun V hV=>by obtain ⟨a,b,c⟩:=(HKD.out.next hV).cells3;exact ⟨a,b,c⟩
  have HKp:=Zh (HK.out _ (zBw W3));have hB:=zBw W3;rw [zVh] at HPP;have HSE:=Zh (show zCP z.lo d=zCP z.lo d from rfl);generalize hSX:zCP z.lo d=SX at HADD HPP;obtain ⟨s,e2⟩:=SX;replace HSE:=Zh hSX;clear hSX;dsimp only at HADD HPP;refine wp_region_held_drew (S:=(fun V=>V.cell? ⟨w.heap.size+1,0,none⟩=some (.bool d.neg)/\V.cell? ⟨w.heap.size+1,1,none⟩=some (.slice DA dn dc)/\V.cell? ⟨w.heap.size+1,2,none⟩=some (.int .i64 d.e))) (by kernel_rfl) (HKp.out) (fun hH=>?_);refine tk (i:=0) (oi:=⟨_,_,_,_,_,_⟩) (v:=?_) rfl (by rfl) ?_ hH ?_;rotate_left
  ·(intro w hSw; (try dsimp only at hSw);go_simp;try (with_reducible rfl))
  simp only [Act.put,sT,sZ,sS];refine tk (i:=1) (oi:=⟨_,_,_,_,_,_⟩) (v:=?_) rfl (by rfl) ?_ hH ?_;rotate_left
  ·(intro w hSw; (try dsimp only at hSw);go_simp;try (with_reducible rfl))
  simp only [Act.put,sT,sZ,sS];refine tk (i:=2) (oi:=⟨_,_,_,_,_,_⟩) (v:=?_) rfl (by rfl) ?_ hH ?_;rotate_left
  ·(intro w hSw; (try dsimp only at hSw);go_simp;try (with_reducible rfl))
  simp only [Act.put,sT,sZ,sS];refine tk (i:=3) (oi:=⟨_,_,_,_,_,_⟩) (v:=?_) rfl (by rfl) ?_ hH ?_;rotate_left
  ·(intro w hSw; (try dsimp only at hSw);go_simp;try (with_reducible rfl))
  simp only [Act.put,sT,sZ,sS];refine tk (i:=5) (oi:=⟨_,_,_,_,_,_⟩) (v:=?_) rfl (by rfl) ?_ hH ?_;rotate_left
  ·(intro w hSw; (try dsimp only at hSw);go_simp;try (with_reducible rfl))
  simp only [Act.put,sT,sZ,sS];refine Yj (rs:=[4]) (by kernel_rfl) (by simp) ?_;refine Yc (o:=⟨_,_,_,_,_,_⟩) rfl (fun K hK=>?_) Yd;have hkb1:=HKB.out.next hB;have g0:=(hkb1.cell (jj*7)).trans (HC7.out 0 _ rfl);have g1:=(hkb1.cell (jj*7+1)).trans (HC7.out 1 _ rfl);have g2:=(hkb1.cell (jj*7+2)).trans (HC7.out 2 _ rfl)
  go_simp
  clear g0 g1 g2 hkb1;refine hK.out _ _ (HKp.out) (fun hH=>?_);clear hK K;refine Yj (rs:=[6]) (by kernel_rfl) (by simp) ?_;refine Yc (o:=⟨_,_,_,_,_,_⟩) rfl (fun K hK=>?_) Yd
  go_simp
  refine (HADD.out _ hB).mono ?_;rintro e V2 ⟨A3,n3,c3,rfl,hsl,hfr,hc⟩
  have hsl1:=hc.size;have HS3:=Zh (hsl.ly hfr);have HLE:Hid (W3.heap.size<=W3.drew.heap.size):=hB.size;replace hB:=zAA hB hc;replace HKp:=Zh (HK.out _ hB);clear hc hsl hfr;go_wp2_with fail
  refine hK.out _ _ (HKp.out) (fun hH=>?_);clear hK K;refine tk (i:=7) (oi:=⟨_,_,_,_,_,_⟩) (v:=?_) rfl (by rfl) ?_ hH ?_;rotate_left
  ·(intro w hSw; (try dsimp only at hSw);go_simp;try (with_reducible rfl))
  simp only [Act.put,sT,sZ,sS];refine tk (i:=8) (oi:=⟨_,_,_,_,_,_⟩) (v:=?_) rfl (by rfl) ?_ hH ?_;rotate_left
  ·(intro w hSw; (try dsimp only at hSw);go_simp;try (with_reducible rfl))
  simp only [Act.put,sT,sZ,sS];refine tk (i:=9) (oi:=⟨_,_,_,_,_,_⟩) (v:=?_) rfl (by rfl) ?_ hH ?_;rotate_left
  ·(intro w hSw; (try dsimp only at hSw);go_simp;try (with_reducible rfl))
  simp only [Act.put,sT,sZ,sS];refine tk (i:=10) (oi:=⟨_,_,_,_,_,_⟩) (v:=?_) rfl (by rfl) ?_ hH ?_;rotate_left
  ·(intro w hSw; (try dsimp only at hSw);go_simp;try (with_reducible rfl))
  simp only [Act.put,sT,sZ,sS];refine tk (i:=11) (oi:=⟨_,_,_,_,_,_⟩) (v:=?_) rfl (by rfl) ?_ hH ?_;rotate_left
  ·(intro w hSw; (try dsimp only at hSw);go_simp;try (with_reducible rfl))
  simp only [Act.put,sT,sZ,sS];refine Yj (rs:=[12]) (by kernel_rfl) (by simp) ?_;refine Yc (o:=⟨_,_,_,_,_,_⟩) rfl (fun K hK=>?_) Yd;have hkb2:=HKB.out.next hB;have g0:=hkb2.frozen (jj*7);have g1:=hkb2.frozen (jj*7+1);have g2:=hkb2.frozen (jj*7+2);have cc0:=(hkb2.cell (jj*7)).trans (HC7.out 0 _ rfl);have cc1:=(hkb2.cell (jj*7+1)).trans (HC7.out 1 _ rfl);have cc2:=(hkb2.cell (jj*7+2)).trans (HC7.out 2 _ rfl)
  go_simp
  have HBW:=Zh (zNl (o:=jj*7) hkb2 (.bool s.neg) (.slice A3 n3 c3) (.int .i64 s.e));have hkr3:=zRV (w:=V2) (g:=R) (o:=jj*7) (.bool s.neg) (.slice A3 n3 c3) (.int .i64 s.e);have hse:=zMJ (w:=V2) (g:=R) (o:=jj*7) (.bool s.neg) (.slice A3 n3 c3) (.int .i64 s.e);have hse1:=Ys hse;have hse2:=Ys hse.symm;have HBE:=Zh ((zAA HB3.out hB).trans (hkr3.below (B:=w.heap.size) (by have:=(zAA HB3.out hB).size;omega) (by omega)));have HKR3:=Zh (hkr3.blk (HKR.out.next hB) (by omega));have HKG3:=Zh (hkr3.blk (HKG.out.next hB) (by omega));have HMV:=Zh (fun b (hb:b<W3.heap.size) (hne:b≠R)=>(hkr3.block b (Yh hb hB.size) hne).trans (hB.block b hb));have hbs:=hB.size;have HYO:Hid (On (((V2.setCell ⟨R,jj*7,none⟩ (.bool s.neg)).setCell ⟨R,jj*7+1,none⟩ (.slice A3 n3 c3)).setCell ⟨R,jj*7+2,none⟩ (.int .i64 s.e)).heap.size (zDc (((V2.setCell ⟨R,jj*7,none⟩ (.bool s.neg)).setCell ⟨R,jj*7+1,none⟩ (.slice A3 n3 c3)).setCell ⟨R,jj*7+2,none⟩ (.int .i64 s.e)) M) (((V2.setCell ⟨R,jj*7,none⟩ (.bool s.neg)).setCell ⟨R,jj*7+1,none⟩ (.slice A3 n3 c3)).setCell ⟨R,jj*7+2,none⟩ (.int .i64 s.e)) (fun W=>RI W [.bool s.neg,.slice A3 n3 c3,.int .i64 s.e,.bool z.hi.neg,.slice A2 n2 c2,.int .i64 z.hi.e,.bool z.all] ⟨s,z.hi,z.all⟩)):=fun W k1 k2=>⟨_,_,_,_,_,_,rfl,(HS3.out.up (w':=(((V2.setCell ⟨R,jj*7,none⟩ (.bool s.neg)).setCell ⟨R,jj*7+1,none⟩ (.slice A3 n3 c3)).setCell ⟨R,jj*7+2,none⟩ (.int .i64 s.e))) hse2 (Ya _) (fun b k3 k4=>hkr3.block b k4 (by have:=HLE.out;omega))) W k1 (fun b k3 k4=>k2 b ⟨k4,fun hm=>by have:=HML.out b hm;have:=HLE.out;omega⟩),(HS7.out W (by omega) (fun b hb=>(k2 b ⟨by have:=hb.1;omega,hb.2⟩).trans (HMV.out b hb.1 (fun e=>hb.2 (e ▸ HLK.out.sub _ mR))))).2⟩
  clear g0 g1 g2 cc0 cc1 cc2 hkb2 hse;have hdd:(((V2.setCell ⟨R,jj*7,none⟩ (.bool s.neg)).setCell ⟨R,jj*7+1,none⟩ (.slice A3 n3 c3)).setCell ⟨R,jj*7+2,none⟩ (.int .i64 s.e)).heap[w.heap.size+1]? = V2.heap[w.heap.size+1]?:=hkr3.block _ (by have:=(zAA HB3.out hB).size;omega) (by omega);have HKe:=Zh (show (((V2.setCell ⟨R,jj*7,none⟩ (.bool s.neg)).setCell ⟨R,jj*7+1,none⟩ (.slice A3 n3 c3)).setCell ⟨R,jj*7+2,none⟩ (.int .i64 s.e)).cell? ⟨w.heap.size+1,0,none⟩=some (.bool d.neg)/\(((V2.setCell ⟨R,jj*7,none⟩ (.bool s.neg)).setCell ⟨R,jj*7+1,none⟩ (.slice A3 n3 c3)).setCell ⟨R,jj*7+2,none⟩ (.int .i64 s.e)).cell? ⟨w.heap.size+1,1,none⟩=some (.slice DA dn dc)/\(((V2.setCell ⟨R,jj*7,none⟩ (.bool s.neg)).setCell ⟨R,jj*7+1,none⟩ (.slice A3 n3 c3)).setCell ⟨R,jj*7+2,none⟩ (.int .i64 s.e)).cell? ⟨w.heap.size+1,2,none⟩=some (.int .i64 d.e) from ⟨(World.cell?_of_block (a:=⟨w.heap.size+1,0,none⟩) hdd).trans HKp.out.1,(World.cell?_of_block (a:=⟨w.heap.size+1,1,none⟩) hdd).trans HKp.out.2.1,(World.cell?_of_block (a:=⟨w.heap.size+1,2,none⟩) hdd).trans HKp.out.2.2⟩);clear hdd hB;generalize (((V2.setCell ⟨R,jj*7,none⟩ (.bool s.neg)).setCell ⟨R,jj*7+1,none⟩ (.slice A3 n3 c3)).setCell ⟨R,jj*7+2,none⟩ (.int .i64 s.e))=WE at *;clear HKp;have HKp:=HKe;clear HKe;refine hK.out _ _ (HKp.out) (fun hH=>?_);clear hK K;refine tk (i:=13) (oi:=⟨_,_,_,_,_,_⟩) (v:=?_) rfl (by rfl) ?_ hH ?_;rotate_left
  ·(intro w hSw; (try dsimp only at hSw);go_simp;try (with_reducible rfl))
  simp only [Act.put,sT,sZ,sS];refine wpAnyH_done (by kernel_rfl) ?_ _;by_cases he2:e2=0
  rotate_left
  ·have he2b:(e2 != 0)=true:=by rw [bne_iff_ne];exact he2
   have HP1:Hid (spP x ii jj false d=(zC0,6)):=by unfold Hid;rw [HPP.out,if_neg (fun h=>he2 h.1)]
   obtain ⟨r0,r1,r2,r3,r4,r5⟩:=(HKR3.out).cells6;have f0:=(HKR3.out).frozen 0;have f1:=(HKR3.out).frozen 1;have f2:=(HKR3.out).frozen 2;have f3:=(HKR3.out).frozen 3;have f4:=(HKR3.out).frozen 4;have f5:=(HKR3.out).frozen 5;have HRR:=Zh (HKR3.out);have HBB9:=Zh (HBE.out);go_wp2_with fail
   refine Yn (zBL Tryz.results14 rfl (HRR.out.set6 _ _ _ _ _ _)) rfl ?_;rw [HP1.out];exact ⟨_,rfl,rfl,zA3 _,zAS HBB9.out (by omega) _ _ _ _ _ _⟩
  subst he2;have hvs:=zFp HLM.out.1 HLM.out.2.2 HSE.out;have HBX:Hid (BdC ({ x with links:=x.links.set ii (spL y jj ⟨s,z.hi,z.all⟩) }:Ct)):=zLW HX.out HXI.out (⟨zDZ hvs.2.2.1,HBZ.out.2⟩);have HRC:Hid (RC WE [.int .i64 x.prec,.int .i64 x.order,.slice A n c,.slice B m q,.slice C p r,.slice (some ⟨g,0,none⟩) ln lc] ({ x with links:=x.links.set ii (spL y jj ⟨s,z.hi,z.all⟩) }:Ct)):=by
   have hrow:=HA5.out.put (w2:=WE) (E':=WE.heap.size) (F':=zDc WE M) HKB.out hjj (us:=[.bool s.neg,.slice A3 n3 c3,.int .i64 s.e,.bool z.hi.neg,.slice A2 n2 c2,.int .i64 z.hi.e,.bool z.all]) rfl _ HBW.out (zRf HC7.out) (zIw (by omega) (by omega)) (fun b hb=>HMV.out b hb.1 (fun e=>hb.2 (e ▸ HLK.out.sub _ mR))) (by omega) (fun b hb=>⟨by have:=hb.1;omega,hb.2⟩) (y:=⟨s,z.hi,z.all⟩) HYO.out;have hl2:=HLK.out.end_ HXI.out HRs.out (by rw [List.length_set]) (by omega) (fun b hb hne=>HMV.out b hb hne) hrow;have ho2:=(HON.out.move (w':=WE) (fun b hb=>HMV.out b hb.1 (fun e=>hb.2 (e ▸ HLK.out.sub _ mR)))).sub (E':=WE.heap.size) (F':=zDc WE M) (by omega) (fun b hb=>⟨by have:=hb.1;omega,hb.2⟩);exact CtM.rc (x:=({ x with links:=x.links.set ii (spL y jj ⟨s,z.hi,z.all⟩) }:Ct)) ⟨⟨A,n,c,B,m,q,C,p,r,_,ln,lc,rfl,ho2,hl2⟩⟩
  obtain ⟨s0,s1,s2,s3,s4,s5⟩:=HKG3.out.cells6;have HVC:=Zh (zBe _ ({ x with links:=x.links.set ii (spL y jj ⟨s,z.hi,z.all⟩) }:Ct) WE HRC.out HBX.out (HT.out WE HBE.out));obtain ⟨v2,hv2⟩:∃v2,ctV ({ x with links:=x.links.set ii (spL y jj ⟨s,z.hi,z.all⟩) }:Ct)=v2:=⟨_,rfl⟩;rw [hv2] at HVC;have HV2:=Zh hv2;clear hv2 hvs;go_wp2_with fail
  clear s0 s1 s2 s3 s4 s5;refine HVC.out.mono ?_;rintro e w9 ⟨rfl,hb9⟩
  have HBX9:=Zh (HBE.out.trans (hb9.mono HBE.out.size));have HRC9:=Zh (zAm _ _ _ _ HRC.out hb9);have hs9:=hb9.size;cases v2
  ·have HP1:Hid (spP x ii jj false d=(zC0,6)):=by unfold Hid;rw [HPP.out,if_neg (fun h=>by have h2:=h.2;rw [zDX HXI.out,HV2.out] at h2;cases h2)]
   obtain ⟨r0,r1,r2,r3,r4,r5⟩:=((HKR3.out.next hb9)).cells6;have f0:=((HKR3.out.next hb9)).frozen 0;have f1:=((HKR3.out.next hb9)).frozen 1;have f2:=((HKR3.out.next hb9)).frozen 2;have f3:=((HKR3.out.next hb9)).frozen 3;have f4:=((HKR3.out.next hb9)).frozen 4;have f5:=((HKR3.out.next hb9)).frozen 5;have HRR:=Zh ((HKR3.out.next hb9));have HBB9:=Zh (HBX9.out);go_wp2_with fail
   refine Yn (zBL Tryz.results14 rfl (HRR.out.set6 _ _ _ _ _ _)) rfl ?_;rw [HP1.out];exact ⟨_,rfl,rfl,zA3 _,zAS HBB9.out (by omega) _ _ _ _ _ _⟩
  have HP1:Hid (spP x ii jj false d=(({ x with links:=x.links.set ii (spL y jj ⟨s,z.hi,z.all⟩) }:Ct),0)):=by unfold Hid;rw [HPP.out,if_pos ⟨by simp,by rw [zDX HXI.out];exact HV2.out⟩,zDX HXI.out]
  have HRR:=Zh (HKR3.out.next hb9);obtain ⟨s0,s1,s2,s3,s4,s5⟩:=(HKG3.out.next hb9).cells6;obtain ⟨r0,r1,r2,r3,r4,r5⟩:=HRR.out.cells6;have f0:=HRR.out.frozen 0;have f1:=HRR.out.frozen 1;have f2:=HRR.out.frozen 2;have f3:=HRR.out.frozen 3;have f4:=HRR.out.frozen 4;have f5:=HRR.out.frozen 5;have HB9:=Zh hb9;clear hb9;go_wp2_with fail
  refine Yn (zBL Tryz.results14 rfl (HRR.out.set6 _ _ _ _ _ _)) rfl ?_;rw [HP1.out];have hfs:((((((w9.setCell ⟨w.heap.size+1+1,0,none⟩ (.int .i64 x.prec)).setCell ⟨w.heap.size+1+1,1,none⟩ (.int .i64 x.order)).setCell ⟨w.heap.size+1+1,2,none⟩ (.slice A n c)).setCell ⟨w.heap.size+1+1,3,none⟩ (.slice B m q)).setCell ⟨w.heap.size+1+1,4,none⟩ (.slice C p r)).setCell ⟨w.heap.size+1+1,5,none⟩ (.slice (some ⟨g,0,none⟩) ln lc)).heap.size=w9.heap.size:=zBz _ _ _ _ _ _;have hmv:∀b,b≠w.heap.size+1+1->((((((w9.setCell ⟨w.heap.size+1+1,0,none⟩ (.int .i64 x.prec)).setCell ⟨w.heap.size+1+1,1,none⟩ (.int .i64 x.order)).setCell ⟨w.heap.size+1+1,2,none⟩ (.slice A n c)).setCell ⟨w.heap.size+1+1,3,none⟩ (.slice B m q)).setCell ⟨w.heap.size+1+1,4,none⟩ (.slice C p r)).setCell ⟨w.heap.size+1+1,5,none⟩ (.slice (some ⟨g,0,none⟩) ln lc)).heap[b]? = w9.heap[b]?:=fun b hb=>zBy hb _ _ _ _ _ _
  have hbe9:=zAS HBX9.out (show w.heap.size<=w.heap.size+1+1 by omega) (.int .i64 x.prec) (.int .i64 x.order) (.slice A n c) (.slice B m q) (.slice C p r) (.slice (some ⟨g,0,none⟩) ln lc);refine ⟨_,rfl,rfl,?_,hbe9⟩;have hrow:=HA5.out.put (w2:=WE) (E':=WE.heap.size) (F':=zDc WE M) HKB.out hjj (us:=[.bool s.neg,.slice A3 n3 c3,.int .i64 s.e,.bool z.hi.neg,.slice A2 n2 c2,.int .i64 z.hi.e,.bool z.all]) rfl _ HBW.out (zRf HC7.out) (zIw (by omega) (by omega)) (fun b hb=>HMV.out b hb.1 (fun e=>hb.2 (e ▸ HLK.out.sub _ mR))) (by omega) (fun b hb=>⟨by have:=hb.1;omega,hb.2⟩) (y:=⟨s,z.hi,z.all⟩) HYO.out;have hl2:=(HLK.out.end_ HXI.out HRs.out (by rw [List.length_set]) (by omega) (fun b hb hne=>HMV.out b hb hne) hrow).below HB9.out;have ho2:=(HON.out.move (w':=WE) (fun b hb=>HMV.out b hb.1 (fun e=>hb.2 (e ▸ HLK.out.sub _ mR)))).sub (E':=WE.heap.size) (F':=zDc WE M) (by omega) (fun b hb=>⟨by have:=hb.1;omega,hb.2⟩);have hne:∀b,b ∉ M->b≠w.heap.size+1+1:=fun b hb e=>hb (e ▸ HGR.out.1)
  have hl3:=hl2.keep (w':=((((((w9.setCell ⟨w.heap.size+1+1,0,none⟩ (.int .i64 x.prec)).setCell ⟨w.heap.size+1+1,1,none⟩ (.int .i64 x.order)).setCell ⟨w.heap.size+1+1,2,none⟩ (.slice A n c)).setCell ⟨w.heap.size+1+1,3,none⟩ (.slice B m q)).setCell ⟨w.heap.size+1+1,4,none⟩ (.slice C p r)).setCell ⟨w.heap.size+1+1,5,none⟩ (.slice (some ⟨g,0,none⟩) ln lc))) (Ys hfs.symm) (fun b hb hor=>hmv b (by
   rcases hor with h | h
   ·exact hne b h
   ·intro e;exact HGR.out.2 (e ▸ h)))
  have ho3:=((ho2.move (w':=w9) (fun b hb=>HB9.out.block b hb.1)).move (w':=((((((w9.setCell ⟨w.heap.size+1+1,0,none⟩ (.int .i64 x.prec)).setCell ⟨w.heap.size+1+1,1,none⟩ (.int .i64 x.order)).setCell ⟨w.heap.size+1+1,2,none⟩ (.slice A n c)).setCell ⟨w.heap.size+1+1,3,none⟩ (.slice B m q)).setCell ⟨w.heap.size+1+1,4,none⟩ (.slice C p r)).setCell ⟨w.heap.size+1+1,5,none⟩ (.slice (some ⟨g,0,none⟩) ln lc))) (fun b hb=>hmv b (hne b hb.2))).sub (E':=((((((w9.setCell ⟨w.heap.size+1+1,0,none⟩ (.int .i64 x.prec)).setCell ⟨w.heap.size+1+1,1,none⟩ (.int .i64 x.order)).setCell ⟨w.heap.size+1+1,2,none⟩ (.slice A n c)).setCell ⟨w.heap.size+1+1,3,none⟩ (.slice B m q)).setCell ⟨w.heap.size+1+1,4,none⟩ (.slice C p r)).setCell ⟨w.heap.size+1+1,5,none⟩ (.slice (some ⟨g,0,none⟩) ln lc)).heap.size) (F':=zDc ((((((w9.setCell ⟨w.heap.size+1+1,0,none⟩ (.int .i64 x.prec)).setCell ⟨w.heap.size+1+1,1,none⟩ (.int .i64 x.order)).setCell ⟨w.heap.size+1+1,2,none⟩ (.slice A n c)).setCell ⟨w.heap.size+1+1,3,none⟩ (.slice B m q)).setCell ⟨w.heap.size+1+1,4,none⟩ (.slice C p r)).setCell ⟨w.heap.size+1+1,5,none⟩ (.slice (some ⟨g,0,none⟩) ln lc)) M) (by omega) (fun b hb=>⟨by have:=hb.1;omega,hb.2⟩);exact CtM.rc (x:=({ x with links:=x.links.set ii (spL y jj ⟨s,z.hi,z.all⟩) }:Ct)) ⟨⟨A,n,c,B,m,q,C,p,r,_,ln,lc,rfl,ho3,hl3⟩⟩
 ·go_wp2_with fail
  clear t0 t1 t2 s0 s1 s2 s3 s4 s5 z6 hmi;generalize (w2.alloc (.cells #[.int .i64 x.prec,.int .i64 x.order,.slice A n c,.slice B m q,.slice C p r,.slice (some ⟨g,0,none⟩) ln lc] 29))=W3 at *;have HK:Hid (∀V,Below W3.heap.size W3 V->(fun V=>V.cell? ⟨w.heap.size+1,0,none⟩=some (.bool d.neg)/\V.cell? ⟨w.heap.size+1,1,none⟩=some (.slice DA dn dc)/\V.cell? ⟨w.heap.size+1,2,none⟩=some (.int .i64 d.e)) V):=fun V hV=>by obtain ⟨a,b,c⟩:=(HKD.out.next hV).cells3;exact ⟨a,b,c⟩
  have HKp:=Zh (HK.out _ (zBw W3));have hB:=zBw W3;rw [zVi] at HPP;have HSE:=Zh (show zHI z.hi d=zHI z.hi d from rfl);generalize hSX:zHI z.hi d=SX at HSUB HPP;obtain ⟨s,e2⟩:=SX;replace HSE:=Zh hSX;clear hSX;dsimp only at HSUB HPP;refine wp_region_held_drew (S:=(fun V=>V.cell? ⟨w.heap.size+1,0,none⟩=some (.bool d.neg)/\V.cell? ⟨w.heap.size+1,1,none⟩=some (.slice DA dn dc)/\V.cell? ⟨w.heap.size+1,2,none⟩=some (.int .i64 d.e))) (by kernel_rfl) (HKp.out) (fun hH=>?_);refine tk (i:=0) (oi:=⟨_,_,_,_,_,_⟩) (v:=?_) rfl (by rfl) ?_ hH ?_;rotate_left
  ·(intro w hSw; (try dsimp only at hSw);go_simp;try (with_reducible rfl))
  simp only [Act.put,sT,sZ,sS];refine tk (i:=1) (oi:=⟨_,_,_,_,_,_⟩) (v:=?_) rfl (by rfl) ?_ hH ?_;rotate_left
  ·(intro w hSw; (try dsimp only at hSw);go_simp;try (with_reducible rfl))
  simp only [Act.put,sT,sZ,sS];refine tk (i:=2) (oi:=⟨_,_,_,_,_,_⟩) (v:=?_) rfl (by rfl) ?_ hH ?_;rotate_left
  ·(intro w hSw; (try dsimp only at hSw);go_simp;try (with_reducible rfl))
  simp only [Act.put,sT,sZ,sS];refine tk (i:=3) (oi:=⟨_,_,_,_,_,_⟩) (v:=?_) rfl (by rfl) ?_ hH ?_;rotate_left
  ·(intro w hSw; (try dsimp only at hSw);go_simp;try (with_reducible rfl))
  simp only [Act.put,sT,sZ,sS];refine tk (i:=5) (oi:=⟨_,_,_,_,_,_⟩) (v:=?_) rfl (by rfl) ?_ hH ?_;rotate_left
  ·(intro w hSw; (try dsimp only at hSw);go_simp;try (with_reducible rfl))
  simp only [Act.put,sT,sZ,sS];refine Yj (rs:=[4]) (by kernel_rfl) (by simp) ?_;refine Yc (o:=⟨_,_,_,_,_,_⟩) rfl (fun K hK=>?_) Yd;have hkb1:=HKB.out.next hB;have g0:=(hkb1.cell (jj*7+3)).trans (HC7.out 3 _ rfl);have g1:=(hkb1.cell (jj*7+3+1)).trans (HC7.out 4 _ rfl);have g2:=(hkb1.cell (jj*7+3+2)).trans (HC7.out 5 _ rfl)
  go_simp
  clear g0 g1 g2 hkb1;refine hK.out _ _ (HKp.out) (fun hH=>?_);clear hK K;refine Yj (rs:=[6]) (by kernel_rfl) (by simp) ?_;refine Yc (o:=⟨_,_,_,_,_,_⟩) rfl (fun K hK=>?_) Yd
  go_simp
  refine (HSUB.out _ hB).mono ?_;rintro e V2 ⟨A3,n3,c3,rfl,hsl,hfr,hc⟩
  have hsl1:=hc.size;have HS3:=Zh (hsl.ly hfr);have HLE:Hid (W3.heap.size<=W3.drew.heap.size):=hB.size;replace hB:=zAA hB hc;replace HKp:=Zh (HK.out _ hB);clear hc hsl hfr;go_wp2_with fail
  refine hK.out _ _ (HKp.out) (fun hH=>?_);clear hK K;refine tk (i:=7) (oi:=⟨_,_,_,_,_,_⟩) (v:=?_) rfl (by rfl) ?_ hH ?_;rotate_left
  ·(intro w hSw; (try dsimp only at hSw);go_simp;try (with_reducible rfl))
  simp only [Act.put,sT,sZ,sS];refine tk (i:=8) (oi:=⟨_,_,_,_,_,_⟩) (v:=?_) rfl (by rfl) ?_ hH ?_;rotate_left
  ·(intro w hSw; (try dsimp only at hSw);go_simp;try (with_reducible rfl))
  simp only [Act.put,sT,sZ,sS];refine tk (i:=9) (oi:=⟨_,_,_,_,_,_⟩) (v:=?_) rfl (by rfl) ?_ hH ?_;rotate_left
  ·(intro w hSw; (try dsimp only at hSw);go_simp;try (with_reducible rfl))
  simp only [Act.put,sT,sZ,sS];refine tk (i:=10) (oi:=⟨_,_,_,_,_,_⟩) (v:=?_) rfl (by rfl) ?_ hH ?_;rotate_left
  ·(intro w hSw; (try dsimp only at hSw);go_simp;try (with_reducible rfl))
  simp only [Act.put,sT,sZ,sS];refine tk (i:=11) (oi:=⟨_,_,_,_,_,_⟩) (v:=?_) rfl (by rfl) ?_ hH ?_;rotate_left
  ·(intro w hSw; (try dsimp only at hSw);go_simp;try (with_reducible rfl))
  simp only [Act.put,sT,sZ,sS];refine Yj (rs:=[12]) (by kernel_rfl) (by simp) ?_;refine Yc (o:=⟨_,_,_,_,_,_⟩) rfl (fun K hK=>?_) Yd;have hkb2:=HKB.out.next hB;have g0:=hkb2.frozen (jj*7+3);have g1:=hkb2.frozen (jj*7+3+1);have g2:=hkb2.frozen (jj*7+3+2);have cc0:=(hkb2.cell (jj*7+3)).trans (HC7.out 3 _ rfl);have cc1:=(hkb2.cell (jj*7+3+1)).trans (HC7.out 4 _ rfl);have cc2:=(hkb2.cell (jj*7+3+2)).trans (HC7.out 5 _ rfl)
  go_simp
  have HBW:=Zh (zNl (o:=jj*7+3) hkb2 (.bool s.neg) (.slice A3 n3 c3) (.int .i64 s.e));have hkr3:=zRV (w:=V2) (g:=R) (o:=jj*7+3) (.bool s.neg) (.slice A3 n3 c3) (.int .i64 s.e);have hse:=zMJ (w:=V2) (g:=R) (o:=jj*7+3) (.bool s.neg) (.slice A3 n3 c3) (.int .i64 s.e);have hse1:=Ys hse;have hse2:=Ys hse.symm;have HBE:=Zh ((zAA HB3.out hB).trans (hkr3.below (B:=w.heap.size) (by have:=(zAA HB3.out hB).size;omega) (by omega)));have HKR3:=Zh (hkr3.blk (HKR.out.next hB) (by omega));have HKG3:=Zh (hkr3.blk (HKG.out.next hB) (by omega));have HMV:=Zh (fun b (hb:b<W3.heap.size) (hne:b≠R)=>(hkr3.block b (Yh hb hB.size) hne).trans (hB.block b hb));have hbs:=hB.size;have HYO:Hid (On (((V2.setCell ⟨R,jj*7+3,none⟩ (.bool s.neg)).setCell ⟨R,jj*7+3+1,none⟩ (.slice A3 n3 c3)).setCell ⟨R,jj*7+3+2,none⟩ (.int .i64 s.e)).heap.size (zDc (((V2.setCell ⟨R,jj*7+3,none⟩ (.bool s.neg)).setCell ⟨R,jj*7+3+1,none⟩ (.slice A3 n3 c3)).setCell ⟨R,jj*7+3+2,none⟩ (.int .i64 s.e)) M) (((V2.setCell ⟨R,jj*7+3,none⟩ (.bool s.neg)).setCell ⟨R,jj*7+3+1,none⟩ (.slice A3 n3 c3)).setCell ⟨R,jj*7+3+2,none⟩ (.int .i64 s.e)) (fun W=>RI W [.bool z.lo.neg,.slice A1 n1 c1,.int .i64 z.lo.e,.bool s.neg,.slice A3 n3 c3,.int .i64 s.e,.bool z.all] ⟨z.lo,s,z.all⟩)):=fun W k1 k2=>⟨_,_,_,_,_,_,rfl,(HS7.out W (by omega) (fun b hb=>(k2 b ⟨by have:=hb.1;omega,hb.2⟩).trans (HMV.out b hb.1 (fun e=>hb.2 (e ▸ HLK.out.sub _ mR))))).1,(HS3.out.up (w':=(((V2.setCell ⟨R,jj*7+3,none⟩ (.bool s.neg)).setCell ⟨R,jj*7+3+1,none⟩ (.slice A3 n3 c3)).setCell ⟨R,jj*7+3+2,none⟩ (.int .i64 s.e))) hse2 (Ya _) (fun b k3 k4=>hkr3.block b k4 (by have:=HLE.out;omega))) W k1 (fun b k3 k4=>k2 b ⟨k4,fun hm=>by have:=HML.out b hm;have:=HLE.out;omega⟩)⟩
  clear g0 g1 g2 cc0 cc1 cc2 hkb2 hse;have hdd:(((V2.setCell ⟨R,jj*7+3,none⟩ (.bool s.neg)).setCell ⟨R,jj*7+3+1,none⟩ (.slice A3 n3 c3)).setCell ⟨R,jj*7+3+2,none⟩ (.int .i64 s.e)).heap[w.heap.size+1]? = V2.heap[w.heap.size+1]?:=hkr3.block _ (by have:=(zAA HB3.out hB).size;omega) (by omega);have HKe:=Zh (show (((V2.setCell ⟨R,jj*7+3,none⟩ (.bool s.neg)).setCell ⟨R,jj*7+3+1,none⟩ (.slice A3 n3 c3)).setCell ⟨R,jj*7+3+2,none⟩ (.int .i64 s.e)).cell? ⟨w.heap.size+1,0,none⟩=some (.bool d.neg)/\(((V2.setCell ⟨R,jj*7+3,none⟩ (.bool s.neg)).setCell ⟨R,jj*7+3+1,none⟩ (.slice A3 n3 c3)).setCell ⟨R,jj*7+3+2,none⟩ (.int .i64 s.e)).cell? ⟨w.heap.size+1,1,none⟩=some (.slice DA dn dc)/\(((V2.setCell ⟨R,jj*7+3,none⟩ (.bool s.neg)).setCell ⟨R,jj*7+3+1,none⟩ (.slice A3 n3 c3)).setCell ⟨R,jj*7+3+2,none⟩ (.int .i64 s.e)).cell? ⟨w.heap.size+1,2,none⟩=some (.int .i64 d.e) from ⟨(World.cell?_of_block (a:=⟨w.heap.size+1,0,none⟩) hdd).trans HKp.out.1,(World.cell?_of_block (a:=⟨w.heap.size+1,1,none⟩) hdd).trans HKp.out.2.1,(World.cell?_of_block (a:=⟨w.heap.size+1,2,none⟩) hdd).trans HKp.out.2.2⟩);clear hdd hB;generalize (((V2.setCell ⟨R,jj*7+3,none⟩ (.bool s.neg)).setCell ⟨R,jj*7+3+1,none⟩ (.slice A3 n3 c3)).setCell ⟨R,jj*7+3+2,none⟩ (.int .i64 s.e))=WE at *;clear HKp;have HKp:=HKe;clear HKe;refine hK.out _ _ (HKp.out) (fun hH=>?_);clear hK K;refine tk (i:=13) (oi:=⟨_,_,_,_,_,_⟩) (v:=?_) rfl (by rfl) ?_ hH ?_;rotate_left
  ·(intro w hSw; (try dsimp only at hSw);go_simp;try (with_reducible rfl))
  simp only [Act.put,sT,sZ,sS];refine wpAnyH_done (by kernel_rfl) ?_ _;by_cases he2:e2=0
  rotate_left
  ·have he2b:(e2 != 0)=true:=by rw [bne_iff_ne];exact he2
   have HP1:Hid (spP x ii jj true d=(zC0,6)):=by unfold Hid;rw [HPP.out,if_neg (fun h=>he2 h.1)]
   obtain ⟨r0,r1,r2,r3,r4,r5⟩:=(HKR3.out).cells6;have f0:=(HKR3.out).frozen 0;have f1:=(HKR3.out).frozen 1;have f2:=(HKR3.out).frozen 2;have f3:=(HKR3.out).frozen 3;have f4:=(HKR3.out).frozen 4;have f5:=(HKR3.out).frozen 5;have HRR:=Zh (HKR3.out);have HBB9:=Zh (HBE.out);go_wp2_with fail
   refine Yn (zBL Tryz.results14 rfl (HRR.out.set6 _ _ _ _ _ _)) rfl ?_;rw [HP1.out];exact ⟨_,rfl,rfl,zA3 _,zAS HBB9.out (by omega) _ _ _ _ _ _⟩
  subst he2;have hvs:=zPN HLM.out.2.1 HLM.out.2.2 HSE.out;have HBX:Hid (BdC ({ x with links:=x.links.set ii (spL y jj ⟨z.lo,s,z.all⟩) }:Ct)):=zLW HX.out HXI.out (⟨HBZ.out.1,zDZ hvs.2.2.1⟩);have HRC:Hid (RC WE [.int .i64 x.prec,.int .i64 x.order,.slice A n c,.slice B m q,.slice C p r,.slice (some ⟨g,0,none⟩) ln lc] ({ x with links:=x.links.set ii (spL y jj ⟨z.lo,s,z.all⟩) }:Ct)):=by
   have hrow:=HA5.out.put (w2:=WE) (E':=WE.heap.size) (F':=zDc WE M) HKB.out hjj (us:=[.bool z.lo.neg,.slice A1 n1 c1,.int .i64 z.lo.e,.bool s.neg,.slice A3 n3 c3,.int .i64 s.e,.bool z.all]) rfl _ HBW.out (zRe HC7.out) (zIw (by omega) (by omega)) (fun b hb=>HMV.out b hb.1 (fun e=>hb.2 (e ▸ HLK.out.sub _ mR))) (by omega) (fun b hb=>⟨by have:=hb.1;omega,hb.2⟩) (y:=⟨z.lo,s,z.all⟩) HYO.out;have hl2:=HLK.out.end_ HXI.out HRs.out (by rw [List.length_set]) (by omega) (fun b hb hne=>HMV.out b hb hne) hrow;have ho2:=(HON.out.move (w':=WE) (fun b hb=>HMV.out b hb.1 (fun e=>hb.2 (e ▸ HLK.out.sub _ mR)))).sub (E':=WE.heap.size) (F':=zDc WE M) (by omega) (fun b hb=>⟨by have:=hb.1;omega,hb.2⟩);exact CtM.rc (x:=({ x with links:=x.links.set ii (spL y jj ⟨z.lo,s,z.all⟩) }:Ct)) ⟨⟨A,n,c,B,m,q,C,p,r,_,ln,lc,rfl,ho2,hl2⟩⟩
  obtain ⟨s0,s1,s2,s3,s4,s5⟩:=HKG3.out.cells6;have HVC:=Zh (zBe _ ({ x with links:=x.links.set ii (spL y jj ⟨z.lo,s,z.all⟩) }:Ct) WE HRC.out HBX.out (HT.out WE HBE.out));obtain ⟨v2,hv2⟩:∃v2,ctV ({ x with links:=x.links.set ii (spL y jj ⟨z.lo,s,z.all⟩) }:Ct)=v2:=⟨_,rfl⟩;rw [hv2] at HVC;have HV2:=Zh hv2;clear hv2 hvs;go_wp2_with fail
  clear s0 s1 s2 s3 s4 s5;refine HVC.out.mono ?_;rintro e w9 ⟨rfl,hb9⟩
  have HBX9:=Zh (HBE.out.trans (hb9.mono HBE.out.size));have HRC9:=Zh (zAm _ _ _ _ HRC.out hb9);have hs9:=hb9.size;cases v2
  ·have HP1:Hid (spP x ii jj true d=(zC0,6)):=by unfold Hid;rw [HPP.out,if_neg (fun h=>by have h2:=h.2;rw [zDX HXI.out,HV2.out] at h2;cases h2)]
   obtain ⟨r0,r1,r2,r3,r4,r5⟩:=((HKR3.out.next hb9)).cells6;have f0:=((HKR3.out.next hb9)).frozen 0;have f1:=((HKR3.out.next hb9)).frozen 1;have f2:=((HKR3.out.next hb9)).frozen 2;have f3:=((HKR3.out.next hb9)).frozen 3;have f4:=((HKR3.out.next hb9)).frozen 4;have f5:=((HKR3.out.next hb9)).frozen 5;have HRR:=Zh ((HKR3.out.next hb9));have HBB9:=Zh (HBX9.out);go_wp2_with fail
   refine Yn (zBL Tryz.results14 rfl (HRR.out.set6 _ _ _ _ _ _)) rfl ?_;rw [HP1.out];exact ⟨_,rfl,rfl,zA3 _,zAS HBB9.out (by omega) _ _ _ _ _ _⟩
  have HP1:Hid (spP x ii jj true d=(({ x with links:=x.links.set ii (spL y jj ⟨z.lo,s,z.all⟩) }:Ct),0)):=by unfold Hid;rw [HPP.out,if_pos ⟨by simp,by rw [zDX HXI.out];exact HV2.out⟩,zDX HXI.out]
  have HRR:=Zh (HKR3.out.next hb9);obtain ⟨s0,s1,s2,s3,s4,s5⟩:=(HKG3.out.next hb9).cells6;obtain ⟨r0,r1,r2,r3,r4,r5⟩:=HRR.out.cells6;have f0:=HRR.out.frozen 0;have f1:=HRR.out.frozen 1;have f2:=HRR.out.frozen 2;have f3:=HRR.out.frozen 3;have f4:=HRR.out.frozen 4;have f5:=HRR.out.frozen 5;have HB9:=Zh hb9;clear hb9;go_wp2_with fail
  refine Yn (zBL Tryz.results14 rfl (HRR.out.set6 _ _ _ _ _ _)) rfl ?_;rw [HP1.out];have hfs:((((((w9.setCell ⟨w.heap.size+1+1,0,none⟩ (.int .i64 x.prec)).setCell ⟨w.heap.size+1+1,1,none⟩ (.int .i64 x.order)).setCell ⟨w.heap.size+1+1,2,none⟩ (.slice A n c)).setCell ⟨w.heap.size+1+1,3,none⟩ (.slice B m q)).setCell ⟨w.heap.size+1+1,4,none⟩ (.slice C p r)).setCell ⟨w.heap.size+1+1,5,none⟩ (.slice (some ⟨g,0,none⟩) ln lc)).heap.size=w9.heap.size:=zBz _ _ _ _ _ _;have hmv:∀b,b≠w.heap.size+1+1->((((((w9.setCell ⟨w.heap.size+1+1,0,none⟩ (.int .i64 x.prec)).setCell ⟨w.heap.size+1+1,1,none⟩ (.int .i64 x.order)).setCell ⟨w.heap.size+1+1,2,none⟩ (.slice A n c)).setCell ⟨w.heap.size+1+1,3,none⟩ (.slice B m q)).setCell ⟨w.heap.size+1+1,4,none⟩ (.slice C p r)).setCell ⟨w.heap.size+1+1,5,none⟩ (.slice (some ⟨g,0,none⟩) ln lc)).heap[b]? = w9.heap[b]?:=fun b hb=>zBy hb _ _ _ _ _ _
  have hbe9:=zAS HBX9.out (show w.heap.size<=w.heap.size+1+1 by omega) (.int .i64 x.prec) (.int .i64 x.order) (.slice A n c) (.slice B m q) (.slice C p r) (.slice (some ⟨g,0,none⟩) ln lc);refine ⟨_,rfl,rfl,?_,hbe9⟩;have hrow:=HA5.out.put (w2:=WE) (E':=WE.heap.size) (F':=zDc WE M) HKB.out hjj (us:=[.bool z.lo.neg,.slice A1 n1 c1,.int .i64 z.lo.e,.bool s.neg,.slice A3 n3 c3,.int .i64 s.e,.bool z.all]) rfl _ HBW.out (zRe HC7.out) (zIw (by omega) (by omega)) (fun b hb=>HMV.out b hb.1 (fun e=>hb.2 (e ▸ HLK.out.sub _ mR))) (by omega) (fun b hb=>⟨by have:=hb.1;omega,hb.2⟩) (y:=⟨z.lo,s,z.all⟩) HYO.out;have hl2:=(HLK.out.end_ HXI.out HRs.out (by rw [List.length_set]) (by omega) (fun b hb hne=>HMV.out b hb hne) hrow).below HB9.out;have ho2:=(HON.out.move (w':=WE) (fun b hb=>HMV.out b hb.1 (fun e=>hb.2 (e ▸ HLK.out.sub _ mR)))).sub (E':=WE.heap.size) (F':=zDc WE M) (by omega) (fun b hb=>⟨by have:=hb.1;omega,hb.2⟩);have hne:∀b,b ∉ M->b≠w.heap.size+1+1:=fun b hb e=>hb (e ▸ HGR.out.1)
  have hl3:=hl2.keep (w':=((((((w9.setCell ⟨w.heap.size+1+1,0,none⟩ (.int .i64 x.prec)).setCell ⟨w.heap.size+1+1,1,none⟩ (.int .i64 x.order)).setCell ⟨w.heap.size+1+1,2,none⟩ (.slice A n c)).setCell ⟨w.heap.size+1+1,3,none⟩ (.slice B m q)).setCell ⟨w.heap.size+1+1,4,none⟩ (.slice C p r)).setCell ⟨w.heap.size+1+1,5,none⟩ (.slice (some ⟨g,0,none⟩) ln lc))) (Ys hfs.symm) (fun b hb hor=>hmv b (by
   rcases hor with h | h
   ·exact hne b h
   ·intro e;exact HGR.out.2 (e ▸ h)))
  have ho3:=((ho2.move (w':=w9) (fun b hb=>HB9.out.block b hb.1)).move (w':=((((((w9.setCell ⟨w.heap.size+1+1,0,none⟩ (.int .i64 x.prec)).setCell ⟨w.heap.size+1+1,1,none⟩ (.int .i64 x.order)).setCell ⟨w.heap.size+1+1,2,none⟩ (.slice A n c)).setCell ⟨w.heap.size+1+1,3,none⟩ (.slice B m q)).setCell ⟨w.heap.size+1+1,4,none⟩ (.slice C p r)).setCell ⟨w.heap.size+1+1,5,none⟩ (.slice (some ⟨g,0,none⟩) ln lc))) (fun b hb=>hmv b (hne b hb.2))).sub (E':=((((((w9.setCell ⟨w.heap.size+1+1,0,none⟩ (.int .i64 x.prec)).setCell ⟨w.heap.size+1+1,1,none⟩ (.int .i64 x.order)).setCell ⟨w.heap.size+1+1,2,none⟩ (.slice A n c)).setCell ⟨w.heap.size+1+1,3,none⟩ (.slice B m q)).setCell ⟨w.heap.size+1+1,4,none⟩ (.slice C p r)).setCell ⟨w.heap.size+1+1,5,none⟩ (.slice (some ⟨g,0,none⟩) ln lc)).heap.size) (F':=zDc ((((((w9.setCell ⟨w.heap.size+1+1,0,none⟩ (.int .i64 x.prec)).setCell ⟨w.heap.size+1+1,1,none⟩ (.int .i64 x.order)).setCell ⟨w.heap.size+1+1,2,none⟩ (.slice A n c)).setCell ⟨w.heap.size+1+1,3,none⟩ (.slice B m q)).setCell ⟨w.heap.size+1+1,4,none⟩ (.slice C p r)).setCell ⟨w.heap.size+1+1,5,none⟩ (.slice (some ⟨g,0,none⟩) ln lc)) M) (by omega) (fun b hb=>⟨by have:=hb.1;omega,hb.2⟩);exact CtM.rc (x:=({ x with links:=x.links.set ii (spL y jj ⟨z.lo,s,z.all⟩) }:Ct)) ⟨⟨A,n,c,B,m,q,C,p,r,_,ln,lc,rfl,ho3,hl3⟩⟩
end Go.Proofs.YtchkfjgcbbbffaaGreatDoor
end
