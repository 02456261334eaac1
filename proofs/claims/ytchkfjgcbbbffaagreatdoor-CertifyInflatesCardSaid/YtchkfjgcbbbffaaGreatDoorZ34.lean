/- Bundle 34: what the law's walk stands on: Math2, M5, S3, S4, S9, S8, S10, S11. -/
import Derived.Test.YtchkfjgcbbbffaaGreatDoorZ1
import Derived.Test.YtchkfjgcbbbffaaGreatDoorZ4
import Derived.Test.YtchkfjgcbbbffaaGreatDoorZ10
import Derived.Test.YtchkfjgcbbbffaaGreatDoorZ14
import Derived.Test.YtchkfjgcbbbffaaGreatDoorZ15
set_option maxRecDepth 100000
set_option maxHeartbeats 20000000
set_option linter.all false
noncomputable section
namespace Go.Proofs.YtchkfjgcbbbffaaGreatDoor.Pl
theorem zVo {n:Nat}(h:n%2=1):tz n=0:=zPX (m:=n / 2) (by omega)
end Go.Proofs.YtchkfjgcbbbffaaGreatDoor.Pl
namespace Go.Proofs.YtchkfjgcbbbffaaGreatDoor
open Go.RowKit Pl Go.Shelf
theorem zP2:zAa 1=[1]:=by rw [zBK 1 (by omega)];rfl
theorem zPu:zAT 1=1:=by decide +kernel
theorem zNn (t:Int):zAN false 1 t=⟨false,[1],t⟩:=by
 rw [zCb (by omega),zVo (n:=1) rfl];simp [zP2]
theorem zTZ (t:Int):vld ⟨false,[1],t⟩=decide (-16384<=t/\t+1<=16384):=by
 have h:=zFL false 1 t;rw [zNn] at h;rw [h];simp only [zII];rw [zIj (by omega),zPu];exact Xk.2 (by omega)
section
variable {E E':Nat}{F F':Nat->Prop}{w w':World}{P Q:World->Prop}
theorem Ly.on {B:Nat}(h:Ly B w P):On w.heap.size (fun b=>B<=b/\b<w.heap.size) w P:=fun W h1 h2=>h W h1 (fun b h3 h4=>h2 b ⟨h3,h4⟩)
end
section
variable {E E':Nat}{F F':Nat->Prop}{w w':World}{T R:Nat}{vs:List Value}{x:Lk}
theorem LkM.tube (h:LkM E F w T R vs x) {t:List Iv}(hl:t.length=x.tube.length) (hr:zFo E' F' w' T t) (hE:E<=E') (hF:∀b,F b->F' b) (hb:∀b,F b->w'.heap[b]? = w.heap[b]?) (hR:w'.heap[R]? = w.heap[R]?) (h1:¬ F' T) (h2:¬ F' R):LkM E' F' w' T R vs { x with tube:=t }:=by
 obtain ⟨H,hn,hc,tn,tc,A,n,c,B,m,d,p,q,V,vn,vc,e,a1,a2,a3,a4,a5⟩:=h.cells;exact ⟨h.ne,h1,h2,H,hn,hc,tn,tc,A,n,c,B,m,d,p,q,V,vn,vc,e,(a1.move hb).sub hE hF,⟨hl.trans a2.1,a2.2⟩,a3,hr,(a5.move hR hb).sub hE hF⟩
end
section
variable {w w':World}{L:Option Addr}{n c:Nat}{M Ts Rs:List Nat}{xs:List Lk}
theorem zHU.tube (h:zHU w L n c M Ts Rs xs) {k T:Nat}{x:Lk}{t:List Iv}(hk:xs[k]? = some x) (hT:Ts[k]? = some T) (hl:t.length=x.tube.length) (hs:w.heap.size<=w'.heap.size) (hb:∀b,b<w.heap.size->b≠T->w'.heap[b]? = w.heap[b]?)
  (hr:zFo w'.heap.size (zDc w' M) w' T t):zHU w' L n c M Ts Rs (xs.set k { x with tube:=t }):=by
 have hkl:k<xs.length:=(Yb.1 hk).1;refine ⟨by rw [List.length_set];exact h.len,h.cap,h.max,h.lT,h.lR,h.nd,h.sub,fun hn=>?_⟩;obtain ⟨g,cs,e,hkb,hg,hc⟩:=h.at_ hn;have mT:T∈M:=h.sub _ (Yt.2 (.inl (Yk hT)));refine ⟨g,cs,e,(hb g hkb.lt (fun e=>hg (e ▸ mT))).trans hkb,hg,fun j y hj=>?_⟩;have hF:∀b,zDc w M b->w'.heap[b]? = w.heap[b]?:=fun b hb'=>hb b hb'.1 (fun e=>hb'.2 (e ▸ mT))
 have hFF:∀b,zDc w M b->zDc w' M b:=fun b hb'=>⟨Yh hb'.1 hs,hb'.2⟩
 by_cases ej:k=j
 ·subst ej
  rw [List.getElem?_set_self hkl] at hj;injection hj with hj
  subst hj;obtain ⟨vs,T',R,h1,hT',hR,h2,h3⟩:=hc k x hk;rw [hT] at hT';injection hT' with hT'
  subst hT';have mR:R∈M:=h.sub _ (Yt.2 (.inr (Yk hR)));have hRl:R<w.heap.size:=by
   obtain ⟨_,_,_,_,_,_,_,_,_,_,_,_,_,_,_,_,_,_,_,_,a4,a5⟩:=h3.cells;exact a5.lt
  exact ⟨vs,T,R,h1,hT,hR,h2,h3.tube hl hr hs hFF hF (hb R hRl (fun e=>h3.ne e.symm)) (fun hF=>hF.2 mT) (fun hF=>hF.2 mR)⟩
 ·rw [List.getElem?_set_ne ej] at hj
  obtain ⟨vs,T',R,h1,hT',hR,h2,h3⟩:=hc j y hj;have mT':T' ∈ M:=h.sub _ (Yt.2 (.inl (Yk hT')));have mR:R∈M:=h.sub _ (Yt.2 (.inr (Yk hR)));have hTl:T' < w.heap.size/\R<w.heap.size:=by
   obtain ⟨_,_,_,_,_,_,_,_,_,_,_,_,_,_,_,_,_,_,_,_,a4,a5⟩:=h3.cells;exact ⟨a4.lt,a5.lt⟩
  exact ⟨vs,T',R,h1,hT',hR,h2,(h3.move (hb T' hTl.1 (zH6 (List.nodup_append.1 h.nd).1 hT' hT (fun e=>ej e.symm))) (hb R hTl.2 (fun e=>zL3 h.nd hT hR e.symm)) hF).sub hs hFF (fun hF=>hF.2 mT') (fun hF=>hF.2 mR)⟩
end
def wdn (d:Dy) (x:Iv):Iv:=⟨(zHI x.lo d).1,(zCP x.hi d).1,false⟩
def wdK (d:Dy) (x:Iv):Bool:=decide ((zHI x.lo d).2=0) && decide ((zCP x.hi d).2=0)
def zRT (d:Dy) (x:Lk):Lk:={ x with tube:=x.tube.map (wdn d),e:={ x.e with r:=x.e.r.map (wdn d) } }
def zLs (d:Dy) (x:Lk):Bool:=x.tube.all (wdK d) && x.e.r.all (wdK d)
def zQD (d:Dy) (x:Ct):Ct:={ x with links:=x.links.map (zRT d) }
def zD4 (b:Int):Dy:=⟨false,[1],-b⟩
def zBn (x:Ct) (b:Int):Ct×Int:=
 if ctV x=false then (zC0,1) else if b<0\/200<b then (zC0,2) else if x.links.all (zLs (zD4 b))=true then (zQD (zD4 b) x,0) else (zC0,9)
theorem zSF {b:Int}(h1:0<=b) (h2:b<=200):vld (zD4 b)=true:=by
 unfold zD4;rw [zTZ];exact Yf ⟨by omega,by omega⟩
theorem zJd (b:Int):zAV (zD4 b).l:=by
 intro x hx;simp [zD4] at hx;omega
theorem zNz (b:Int) (K:Nat):0<=zd K (zD4 b):=by
 unfold zd zD4 zs;simp
theorem zFS (x y:Int):zLc x y<=0 ↔ x<=y:=by
 rcases zA7 x y with ⟨h,e⟩ | ⟨h,e⟩ | ⟨h,e⟩ <;> rw [e] <;> omega
theorem zRs {d:Dy}{x:Iv}(hd:zAV d.l) (hp:∀K,0<=zd K d) (hx:LmI x) (hv:ivV x=true) (ha:x.all=false) (hk:wdK d x=true) :
  ivV (wdn d x)=true/\LmI (wdn d x)/\(zCM x zAZ=true->zCM (wdn d x) zAZ=true):=by
 unfold wdK at hk;simp only [Yi,Xa] at hk;have e1:zHI x.lo d=((wdn d x).lo,0):=Prod.ext rfl hk.1;have e2:zCP x.hi d=((wdn d x).hi,0):=Prod.ext rfl hk.2;obtain ⟨a1,a2,a3,a4,a5⟩:=zPN hx.1 hd e1;obtain ⟨b1,b2,b3,b4,b5⟩:=zFp hx.2 hd e2;have hle:zd 40000 x.lo<=zd 40000 x.hi:=by
  unfold ivV at hv;rw [ha] at hv;simp only [Bool.false_eq_true,if_false,Yi,Xa] at hv;rw [zDH (K:=40000) (by omega) hv.1.1 hv.1.2,zFS] at hv;exact hv.2
 have hv':ivV (wdn d x)=true:=by
  unfold ivV;rw [show (wdn d x).all=false from rfl];simp only [Bool.false_eq_true,if_false,Yi,Xa];refine ⟨⟨a3,b3⟩,?_⟩;rw [zDH (K:=40000) (by omega) a3 b3,zFS,a5 40000 (by omega),b5 40000 (by omega)];have:=hp 40000;omega
 refine ⟨hv',⟨a4,b4⟩,fun hh=>?_⟩;unfold zCM at hh ⊢;rw [hv',zEG,show (wdn d x).all=false from rfl];rw [ha] at hh;simp only [Bool.false_or,Bool.true_and,Yi,Xa] at hh ⊢;rw [zDH (K:=40000) (by omega) a1 zEG,zDH (K:=40000) (by omega) zEG b1,zFS,zFS] at hh;rw [zDH (K:=40000) (by omega) a3 zEG,zDH (K:=40000) (by omega) zEG b3,zFS,zFS,a5 40000 (by omega),b5 40000 (by omega)];have:=hp 40000;omega
theorem zEV {α β:Type}{p:α->Bool}{l:List β}{f:β->α}(h:∀x∈l,p (f x)=false):(!(l.map f).any p)=true:=by
 rw [Bool.not_eq_true',List.any_eq_false];intro y hy;obtain ⟨x,hx,rfl⟩:=List.mem_map.1 hy
 simpa using h x hx
theorem zST {d:Dy}{x:Lk}{N:Nat}(hd:zAV d.l) (hp:∀K,0<=zd K d) (hx:LmL x) (hv:lkV N x=true) (hk:zLs d x=true):lkV N (zRT d x)=true/\LmL (zRT d x):=by
 unfold zLs at hk;rw [Yi,List.all_eq_true,List.all_eq_true] at hk;unfold lkV at hv;simp only [Yi,Xa] at hv;obtain ⟨⟨⟨⟨⟨⟨v1,v2⟩,v3⟩,v4⟩,v5⟩,v6⟩,v7⟩:=hv;have t1:=zB9 v3;have r1:=(zDm v5).2.2;have T:=fun y hy=>zRs hd hp (hx.t y hy) (t1 y hy).1 (t1 y hy).2 (hk.1 y hy)
 have R:=fun y hy=>zRs hd hp (hx.e.r y hy) (r1 y hy).1 (r1 y hy).2 (hk.2 y hy)
 constructor
 ·unfold lkV
  simp only [Yi,Xa];refine ⟨⟨⟨⟨⟨⟨v1,v2⟩,?_⟩,?_⟩,?_⟩,v6⟩,v7⟩
  ·unfold zEO at v3 ⊢
   simp only [Yi,Xa] at v3 ⊢;refine ⟨⟨?_,?_⟩,?_⟩
   ·show 1<=(x.tube.map (wdn d)).length
    rw [Xe];exact v3.1.1
   ·show (x.tube.map (wdn d)).length<=8
    rw [Xe];exact v3.1.2
   ·exact zEV (fun y hy=>by rw [(T y hy).1];rfl)
  ·show (x.tube.map (wdn d)).length=N
   rw [Xe];exact v4
  ·unfold frV at v5 ⊢
   simp only [Yi,Xa] at v5 ⊢;obtain ⟨⟨⟨⟨⟨⟨u1,u2⟩,u3⟩,u4⟩,u5⟩,u6⟩,u7⟩:=v5;refine ⟨⟨⟨⟨⟨⟨u1,u2⟩,u3⟩,?_⟩,u5⟩,u6⟩,?_⟩
   ·show (x.e.r.map (wdn d)).length=_
    rw [Xe];exact u4
   ·refine zEV (fun y hy=>?_)
    have:=zDf u7 y hy;rw [Xc] at this;rw [(R y hy).2.2 (by simpa using this.2)];rfl
 ·exact ⟨hx.h,fun y hy=>by obtain ⟨z,hz,rfl⟩:=List.mem_map.1 hy;exact (T z hz).2.1,⟨hx.e.c,hx.e.a,fun y hy=>by obtain ⟨z,hz,rfl⟩:=List.mem_map.1 hy;exact (R z hz).2.1⟩,hx.v⟩
theorem zOA {d:Dy}{x:Ct}(hd:zAV d.l) (hp:∀K,0<=zd K d) (hx:LmC x) (hv:ctV x=true) (hk:x.links.all (zLs d)=true):ctV (zQD d x)=true/\LmC (zQD d x):=by
 rw [List.all_eq_true] at hk;have hl:=(zBM hv).2.2.1;have L:=fun y hy=>zST hd hp (hx.l y hy) (hl y hy) (hk y hy)
 constructor
 ·unfold ctV at hv ⊢
  simp only [Yi,Xa] at hv ⊢;obtain ⟨⟨⟨⟨⟨⟨⟨⟨⟨v1,v2⟩,v3⟩,v4⟩,v5⟩,v6⟩,v7⟩,v8⟩,v9⟩,v10⟩:=hv;refine ⟨⟨⟨⟨⟨⟨⟨⟨⟨v1,v2⟩,v3⟩,v4⟩,?_⟩,v6⟩,v7⟩,v8⟩,v9⟩,?_⟩
  ·show (x.links.map (zRT d)).length<=1000
   rw [Xe];exact v5
  ·exact zEV (fun y hy=>by rw [show (zQD d x).start=x.start from rfl,(L y hy).1];rfl)
 ·exact ⟨hx.s,fun y hy=>by obtain ⟨z,hz,rfl⟩:=List.mem_map.1 hy;exact (L z hz).2⟩
theorem zQE {x:Ct}{b:Int}(hx:LmC x):smC (zBn x b).1 (zBn x b).2 (zBn x b).1 (zBn x b).2=true:=by
 unfold zBn
 split
 ·exact zFl (by decide) _
 ·rename_i hv
  split
  ·exact zFl (by decide) _
  ·rename_i hb
   split
   ·rename_i hk
    have:=zOA (zJd b) (zNz b) hx (by simpa using hv) hk;exact zPH this.2 this.1
   ·exact zFl (by decide) _
theorem Ly.rest {B:Nat}{w:World}{P:World->Prop}{M:List Nat}(h:Ly B w P) (hB:∀b∈M,b<B):On w.heap.size (zDc w M) w P:=
 h.on.sub (Ya _) (fun b hb=>⟨hb.2,fun hm=>by have:=hB b hm;omega⟩)
theorem zTT {g:Nat}{w w':World}(h:zBx w) (k:KR g w w') (hg:1≠g):zBx w':=fun j hj=>(World.cell?_of_block (w:=w) (a:=⟨1,j,none⟩) (k.block _ h.lt hg)).trans (h j hj)
theorem zJi {α:Type}{f:α->α}{xs:List α}{k:Nat}{x:α}(h:xs[k]? = some x):((xs.take k).map f++xs.drop k).set k (f x)=(xs.take (k+1)).map f++xs.drop (k+1):=by
 obtain ⟨hk,e⟩:=Yb.1 h;have hl:((xs.take k).map f).length=k:=by rw [Xe,Yr];omega
 have e2:((xs.take k).map f++xs.drop k).set k (f x)=(xs.take k).map f++(xs.drop k).set 0 (f x):=by
  have:=List.set_append_right (s:=(xs.take k).map f) (t:=xs.drop k) (i:=k) (x:=f x) (by omega);rw [this,hl,Nat.sub_self]
 rw [e2,List.drop_eq_getElem_cons hk,List.set_cons_zero,List.take_add_one,h];simp
theorem zIf {α:Type}{f:α->α}{xs:List α}{k:Nat}{x:α}(h:xs[k]? = some x):((xs.take k).map f++xs.drop k)[k]? = some x:=by
 obtain ⟨hk,e⟩:=Yb.1 h;have hl:((xs.take k).map f).length=k:=by rw [Xe,Yr];omega
 rw [Yx (by omega),hl,Nat.sub_self,List.getElem?_drop,Nat.add_zero];exact h
theorem zLo {α:Type}{f:α->α}{xs:List α}{k:Nat}:((xs.take k).map f++xs.drop k).length=xs.length:=by
 rw [Yu,Xe,Yr,List.length_drop];omega
theorem zLn (g ge:Nat) (M:List Nat) (n c:Nat) (xs:List Iv) (ε:Dy) (eA:Option Addr) (en ec:Nat) (w:World) (hr:zFo w.heap.size (zDc w M) w g xs) (hl:xs.length=n) (hn:n<=1000) (hc:n<=c) (hm:c<=9223372036854775807) (hg:g∈M) (hM:∀b∈M,b<w.heap.size) (ht:zBx w) (htg:1≠g)
  (he:Blk w ge 41 #[.bool ε.neg,.slice eA en ec,.int .i64 ε.e]) (hge:ge≠g) (hse:On w.heap.size (zDc w M) w (fun W=>SL W eA en ec ε.l)) (hel:ε.l.length<=1000) (ha:∀x∈xs,x.all=false) (hb:∀x∈xs,BdI x) :
  Calls Tryz.prog 59 #[.slice (some ⟨g,0,none⟩) n c,.pointer (some ⟨ge,0,none⟩)] w fun e w'=>e=.returned (.bool (xs.all (wdK ε)))/\KR g w w'/\(xs.all (wdK ε)=true->zFo w'.heap.size (zDc w' M) w' g (xs.map (wdn ε))):=by
 have HR:=Zh hr;have HL:=Zh hl;have HM:=Zh hM;have HT:=Zh ht;have HE:=Zh he;have HSE:=Zh hse;have HA:=Zh ha;have HBd:=Zh hb;have hgl:=hr.lt;have hen:en<=1000:=by have:=(hse.here (Ya _)).len;omega
 clear hr hl hM ht he hse hel ha hb;go_enter Tryz.func59,Tryz.ntmps59
 go_wp2_with fail
 go_loopw [12] (fun i wr=>∃k:Nat,k<=n/\i=.int .i64 k/\Hid (zFo wr.heap.size (zDc wr M) wr g ((xs.take k).map (wdn ε)++xs.drop k))/\Hid (KR g w wr)/\Hid ((xs.take k).all (wdK ε)=true)) (fun i _=>n - (intOf i).toNat)
 case atStart=>exact ⟨0,by omega,rfl,by simpa [Hid] using HR.out,KR.refl _ _,by simp [Hid]⟩
 case round=>
  obtain ⟨k,hk,rfl,HQ,HK,HO⟩:=hrel;by_cases hlt:k<n
  ·have hkx:k<xs.length:=by rw [HL.out];exact hlt
   have hx:xs[k]? = some xs[k]:=Yo hkx;have hxa:=HA.out _ (List.getElem_mem hkx);have HBx:=Zh (HBd.out _ (List.getElem_mem hkx));generalize xs[k]=x at *;have HX:=Zh hx;obtain ⟨cs,hkb,hcs⟩:=HQ.out.cells;obtain ⟨us,hu7,hcell,hon⟩:=hcs k x (zIf hx);obtain ⟨A1,n1,c1,A2,n2,c2,hus,hs1,hs2⟩:=hon.here (Ya _);subst hus;have HS:Hid (∀W,wr.heap.size<=W.heap.size->(∀b,zDc wr M b->W.heap[b]? = wr.heap[b]?)->SL W A1 n1 c1 x.lo.l/\SL W A2 n2 c2 x.hi.l):=fun W h1 h2=>by
    obtain ⟨A1',n1',c1',A2',n2',c2',e,k1,k2⟩:=hon W h1 h2;simp at e;obtain ⟨⟨rfl,rfl,rfl⟩,rfl,rfl,rfl⟩:=e;exact ⟨k1,k2⟩
   have hn1:n1<=1000:=by have:=hs1.len;have:=HBx.out.1;unfold Bd at this;omega
   have hn2:n2<=1000:=by have:=hs2.len;have:=HBx.out.2;unfold Bd at this;omega
   have hcz:k*7+6<cs.size:=(Yv.1 (hcell 6 _ rfl)).1;rw [hxa] at hcell;have q0:wr.cell? ⟨g,k*7,none⟩=some (.bool x.lo.neg):=(hkb.cell _).trans (hcell 0 _ rfl);have q1:wr.cell? ⟨g,k*7+1,none⟩=some (.slice A1 n1 c1):=(hkb.cell _).trans (hcell 1 _ rfl);have q2:wr.cell? ⟨g,k*7+2,none⟩=some (.int .i64 x.lo.e):=(hkb.cell _).trans (hcell 2 _ rfl);have q3:wr.cell? ⟨g,k*7+3,none⟩=some (.bool x.hi.neg):=(hkb.cell _).trans (hcell 3 _ rfl);have q4:wr.cell? ⟨g,k*7+4,none⟩=some (.slice A2 n2 c2):=(hkb.cell _).trans (hcell 4 _ rfl);have q5:wr.cell? ⟨g,k*7+5,none⟩=some (.int .i64 x.hi.e):=(hkb.cell _).trans (hcell 5 _ rfl);have q6:wr.cell? ⟨g,k*7+6,none⟩=some (.bool false):=(hkb.cell _).trans (hcell 6 _ rfl);have HKB:=Zh hkb;have Q0:=Zh q0;have Q1:=Zh q1;have Q2:=Zh q2;have Q3:=Zh q3;have Q4:=Zh q4;have Q5:=Zh q5;have Q6:=Zh q6;have HOX:=Zh hxa;have hek:=HK.out.blk HE.out hge;have HEK:=Zh hek;have hwr:=HK.out.size;have hb1:=zAE wr (.cells #[.bool x.lo.neg,.slice A1 n1 c1,.int .i64 x.lo.e,.bool x.hi.neg,.slice A2 n2 c2,.int .i64 x.hi.e,.bool false] 43);obtain ⟨s0,s1,s2⟩:=(hek.next hb1).cells3;have hz1:(wr.alloc (.cells #[.bool x.lo.neg,.slice A1 n1 c1,.int .i64 x.lo.e,.bool x.hi.neg,.slice A2 n2 c2,.int .i64 x.hi.e,.bool false] 43)).heap.size=wr.heap.size+1:=by simp
   have hz2:=Ys hz1;have hz3:=Ys hz1.symm;have kx:=Blk.new wr 43 #[.bool x.lo.neg,.slice A1 n1 c1,.int .i64 x.lo.e,.bool x.hi.neg,.slice A2 n2 c2,.int .i64 x.hi.e,.bool false];have HB1:=Zh hb1;have HTr:=Zh (zTT HT.out HK.out htg);have HSE1:=Zh (fun W (hW:Below wr.heap.size wr W)=>(HSE.out W (Yq hwr hW.size) (fun b hb=>(hW.block b (Yh hb.1 hwr)).trans (HK.out.block b hb.1 (fun e=>hb.2 (e ▸ hg))))));have HC1:=Zh (fun W (hW:Below wr.heap.size wr W)=>zI7 x.lo.neg ε.neg A1 eA n1 c1 en ec x.lo.l ε.l x.lo.e ε.e W (HS.out W hW.size (fun b hb=>hW.block b hb.1)).1 (HSE1.out W hW) (HTr.out.next hW) (by omega) (by omega));have HC2:=Zh (fun W (hW:Below wr.heap.size wr W)=>zIO x.hi.neg ε.neg A2 eA n2 c2 en ec x.hi.l ε.l x.hi.e ε.e W (HS.out W hW.size (fun b hb=>hW.block b hb.1)).2 (HSE1.out W hW) (HTr.out.next hW) (by omega) (by omega));have HW:Hid (wdn ε x=⟨(zHI x.lo ε).1,(zCP x.hi ε).1,false⟩/\wdK ε x=(decide ((zHI x.lo ε).2=0) && decide ((zCP x.hi ε).2=0))):=⟨rfl,rfl⟩
   (try dsimp only at HC1 HC2)
   generalize zHI x.lo ε = S1 at *;generalize zCP x.hi ε = S2 at *;obtain ⟨lo,e1⟩:=S1;obtain ⟨hi,e2⟩:=S2
   (try dsimp only at HC1 HC2)
   have HW2:=Zh HW.out;clear HW hu7 hon hs1 hs2 hcell hcs hx hb1 hz1 hkb hek;go_wp2_with fail
   clear q0 q1 q2 q3 q4 q5 q6;generalize wr.alloc (.cells #[.bool x.lo.neg,.slice A1 n1 c1,.int .i64 x.lo.e,.bool x.hi.neg,.slice A2 n2 c2,.int .i64 x.hi.e,.bool false] 43)=W0 at *;refine (HC1.out W0 HB1.out).mono ?_;rintro e w1 ⟨A3,n3,c3,rfl,hsl3,hfr3,hb2⟩
   have hbb1:=zAA HB1.out hb2;have HS3:=Zh (hsl3.ly hfr3);have HBB1:=Zh hbb1;replace kx:=kx.next hb2;have hs01:=hb2.size;clear hsl3 hfr3;obtain ⟨x0,x1,x2,x3,x4,x5,x6⟩:=kx.cells7;clear s0 s1 s2;have hek1:=HEK.out.next hbb1;obtain ⟨s0,s1,s2⟩:=hek1.cells3;have kl:=Blk.new w1 41 #[.bool lo.neg,.slice A3 n3 c3,.int .i64 lo.e];have hb3:=zAE w1 (.cells #[.bool lo.neg,.slice A3 n3 c3,.int .i64 lo.e] 41);have hek2:=hek1.next hb3;have kx2:=kx.next hb3;obtain ⟨y0,y1,y2,y3,y4,y5,y6⟩:=kx2.cells7;obtain ⟨t0,t1,t2⟩:=hek2.cells3;have hbb2:=zAA hbb1 hb3;have hz1:(w1.alloc (.cells #[.bool lo.neg,.slice A3 n3 c3,.int .i64 lo.e] 41)).heap.size=w1.heap.size+1:=by simp
   have hz4:=Ys hz1;have hz5:=Ys hz1.symm;have HB3:=Zh hb3;have HBB2:=Zh hbb2;clear hz1 kx hek1 hek2 hbb1 hbb2 hb2 hb3 kx2;go_wp2_with fail
   clear x0 x1 x2 x3 x4 x5 x6 y0 y1 y2 y3 y4 y5 y6 s0 s1 s2 t0 t1 t2;generalize w1.alloc (.cells #[.bool lo.neg,.slice A3 n3 c3,.int .i64 lo.e] 41)=W1 at *;refine (HC2.out W1 HBB2.out).mono ?_;rintro e w2 ⟨A4,n4,c4,rfl,hsl4,hfr4,hb4⟩
   have HS4:=Zh (hsl4.ly hfr4);have hbb3:=zAA HBB2.out hb4;have hs12:=hb4.size;have kl2:=kl.next hb4;have hb5:=zAE w2 (.cells #[.bool hi.neg,.slice A4 n4 c4,.int .i64 hi.e] 41);have kh:=Blk.new w2 41 #[.bool hi.neg,.slice A4 n4 c4,.int .i64 hi.e];have kl3:=kl2.next hb5;have hbb4:=zAA hbb3 hb5;have hz1:(w2.alloc (.cells #[.bool hi.neg,.slice A4 n4 c4,.int .i64 hi.e] 41)).heap.size=w2.heap.size+1:=by simp
   have hz6:=Ys hz1;have hz7:=Ys hz1.symm;have HBB4:=Zh hbb4;have HL13:=Zh (zAA HB3.out (zAA hb4 hb5));have HL24:=Zh hb5;have hkb5:=HKB.out.next hbb4;have HKB5:=Zh hkb5;obtain ⟨x0,x1,x2⟩:=kl3.cells3;obtain ⟨y0,y1,y2⟩:=kh.cells3;have r0:(w2.alloc (.cells #[.bool hi.neg,.slice A4 n4 c4,.int .i64 hi.e] 41)).cell? ⟨g,k*7,none⟩=some (.bool x.lo.neg):=(HBB4.out.cell (p:=⟨g,k*7,none⟩) HKB.out.lt).trans Q0.out;have f0:=hkb5.frozen (k*7);have r1:(w2.alloc (.cells #[.bool hi.neg,.slice A4 n4 c4,.int .i64 hi.e] 41)).cell? ⟨g,k*7+1,none⟩=some (.slice A1 n1 c1):=(HBB4.out.cell (p:=⟨g,k*7+1,none⟩) HKB.out.lt).trans Q1.out;have f1:=hkb5.frozen (k*7+1);have r2:(w2.alloc (.cells #[.bool hi.neg,.slice A4 n4 c4,.int .i64 hi.e] 41)).cell? ⟨g,k*7+2,none⟩=some (.int .i64 x.lo.e):=(HBB4.out.cell (p:=⟨g,k*7+2,none⟩) HKB.out.lt).trans Q2.out;have f2:=hkb5.frozen (k*7+2);have r3:(w2.alloc (.cells #[.bool hi.neg,.slice A4 n4 c4,.int .i64 hi.e] 41)).cell? ⟨g,k*7+3,none⟩=some (.bool x.hi.neg):=(HBB4.out.cell (p:=⟨g,k*7+3,none⟩) HKB.out.lt).trans Q3.out;have f3:=hkb5.frozen (k*7+3);have r4:(w2.alloc (.cells #[.bool hi.neg,.slice A4 n4 c4,.int .i64 hi.e] 41)).cell? ⟨g,k*7+4,none⟩=some (.slice A2 n2 c2):=(HBB4.out.cell (p:=⟨g,k*7+4,none⟩) HKB.out.lt).trans Q4.out;have f4:=hkb5.frozen (k*7+4);have r5:(w2.alloc (.cells #[.bool hi.neg,.slice A4 n4 c4,.int .i64 hi.e] 41)).cell? ⟨g,k*7+5,none⟩=some (.int .i64 x.hi.e):=(HBB4.out.cell (p:=⟨g,k*7+5,none⟩) HKB.out.lt).trans Q5.out;have f5:=hkb5.frozen (k*7+5);have r6:(w2.alloc (.cells #[.bool hi.neg,.slice A4 n4 c4,.int .i64 hi.e] 41)).cell? ⟨g,k*7+6,none⟩=some (.bool false):=(HBB4.out.cell (p:=⟨g,k*7+6,none⟩) HKB.out.lt).trans Q6.out;have f6:=hkb5.frozen (k*7+6);clear hsl4 hfr4 hz1 kl kl2 hbb3 hbb4 hb4 hb5 kl3 kh hkb5;by_cases he1:e1=0
   rotate_left
   ·have he1b:(e1 != 0)=true:=by simpa using he1
    have hd:decide (e1=0)=false:=Ye he1;go_wp2_with fail
    go_ret;have hall:xs.all (wdK ε)=false:=by
     rw [List.all_eq_false];exact ⟨x,Yk HX.out,by rw [HW2.out.2];simp [he1]⟩
    rw [hall];exact ⟨rfl,HK.out.trans (KR.of HBB4.out),by simp⟩
   subst he1;by_cases he2:e2=0
   rotate_left
   ·have he2b:(e2 != 0)=true:=by simpa using he2
    have hd:decide (e2=0)=false:=Ye he2;go_wp2_with fail
    go_ret;have hall:xs.all (wdK ε)=false:=by
     rw [List.all_eq_false];exact ⟨x,Yk HX.out,by rw [HW2.out.2];simp [he2]⟩
    rw [hall];exact ⟨rfl,HK.out.trans (KR.of HBB4.out),by simp⟩
   subst he2;have HP1:=Zh (zGA (p:=k*7) HKB5.out (.bool lo.neg) (.slice A3 n3 c3) (.int .i64 lo.e) (.bool hi.neg) (.slice A4 n4 c4) (.int .i64 hi.e) (.bool false));have HP2:=Zh (zIo (w:=w2.alloc (.cells #[.bool hi.neg,.slice A4 n4 c4,.int .i64 hi.e] 41)) (g:=g) (p:=k*7) (.bool lo.neg) (.slice A3 n3 c3) (.int .i64 lo.e) (.bool hi.neg) (.slice A4 n4 c4) (.int .i64 hi.e) (.bool false));have hzz:=zHG (w:=w2.alloc (.cells #[.bool hi.neg,.slice A4 n4 c4,.int .i64 hi.e] 41)) (g:=g) (p:=k*7) (.bool lo.neg) (.slice A3 n3 c3) (.int .i64 lo.e) (.bool hi.neg) (.slice A4 n4 c4) (.int .i64 hi.e) (.bool false);have hzz1:=Ys hzz;have hzz2:=Ys hzz.symm;clear hzz;go_wp2_with fail
   clear x0 x1 x2 y0 y1 y2 r0 r1 r2 r3 r4 r5 r6 f0 f1 f2 f3 f4 f5 f6;generalize ((((((((w2.alloc (.cells #[.bool hi.neg,.slice A4 n4 c4,.int .i64 hi.e] 41)).setCell ⟨g,k*7,none⟩ (.bool lo.neg)).setCell ⟨g,k*7+1,none⟩ (.slice A3 n3 c3)).setCell ⟨g,k*7+2,none⟩ (.int .i64 lo.e)).setCell ⟨g,k*7+3,none⟩ (.bool hi.neg)).setCell ⟨g,k*7+4,none⟩ (.slice A4 n4 c4)).setCell ⟨g,k*7+5,none⟩ (.int .i64 hi.e)).setCell ⟨g,k*7+6,none⟩ (.bool false))=W5 at *;generalize w2.alloc (.cells #[.bool hi.neg,.slice A4 n4 c4,.int .i64 hi.e] 41)=W4 at *
   go_roundw
   case rel=>
    have hkw:=HK.out.trans ((KR.of HBB4.out).trans HP2.out);refine ⟨k+1,by omega,by go_num,?_,hkw,?_⟩
    ·show zFo _ _ _ _ _
     rw [<- zJi HX.out];have hrow:=HQ.out.move (w':=W4) (HBB4.out.block g (by have:=HQ.out.lt;omega)) (fun b hb=>HBB4.out.block b hb.1);have hM2:∀b∈M,b<wr.heap.size:=fun b hb=>Yh (HM.out b hb) hwr
     have hne:∀b,b ∉ M->b≠g:=fun b hb e=>hb (e ▸ hg)
     refine hrow.put HKB5.out (by rw [zLo,HL.out];exact hlt) (us:=[.bool lo.neg,.slice A3 n3 c3,.int .i64 lo.e,.bool hi.neg,.slice A4 n4 c4,.int .i64 hi.e,.bool false]) rfl _ HP1.out (zGK hcz) zME (fun b hb=>HP2.out.block b (Yh hb.1 HBB4.out.size) (hne b hb.2)) (by omega) (fun b hb=>⟨by have:=hb.1;omega,hb.2⟩) ?_;have e3:Ly W0.heap.size W5 (fun W=>SL W A3 n3 c3 lo.l):=(HS3.out.up HL13.out.size (Ya _) (fun b h1 h2=>HL13.out.block b h2)).up (by omega) (Ya _) (fun b h1 h2=>HP2.out.block b h2 (by omega));have e4:Ly W1.heap.size W5 (fun W=>SL W A4 n4 c4 hi.l):=(HS4.out.up HL24.out.size (Ya _) (fun b h1 h2=>HL24.out.block b h2)).up (by omega) (Ya _) (fun b h1 h2=>HP2.out.block b h2 (by omega));have e5:=e3.rest (M:=M) (fun b hb=>by have:=hM2 b hb;omega);have e6:=e4.rest (M:=M) (fun b hb=>by have:=hM2 b hb;omega);rw [HW2.out.1];exact fun W h1 h2=>⟨_,_,_,_,_,_,rfl,e5 W h1 h2,e6 W h1 h2⟩
    ·show List.all _ _=true
     rw [List.take_add_one,HX.out,List.all_append,HO.out];simp [HW2.out.2]
   case measure=>simp [intOf];omega
  ·obtain rfl:k=n:=by omega
   have hmn:xs.take k=xs:=Xd (by rw [HL.out];exact Ya _);have hdn:xs.drop k=[]:=List.drop_eq_nil_of_le (by rw [HL.out];exact Ya _);have HQ2:=HQ.out;rw [hmn,hdn,List.append_nil] at HQ2;have HO2:=HO.out;rw [hmn] at HO2;replace HQ2:=Zh HQ2;replace HO2:=Zh HO2;go_wp2_with fail
   go_ret;rw [HO2.out];exact ⟨rfl,HK.out,fun _=>HQ2.out⟩
section
variable {M:List Nat}{w w' w'':World}
theorem KM.refl (M:List Nat) (w:World):KM M w w:=⟨rfl,rfl,rfl,Ya _,fun _ _ _=>rfl⟩
theorem KM.trans (h:KM M w w') (k:KM M w' w''):KM M w w'':=⟨k.os.trans h.os,k.tape.trans h.tape,k.output.trans h.output,Yq h.size k.size,fun b hb hg=>(k.block b (Yh hb h.size) hg).trans (h.block b hb hg)⟩
theorem KR.km {g:Nat}(h:KR g w w') (hg:g∈M):KM M w w':=⟨h.os,h.tape,h.output,h.size,fun b hb hm=>h.block b hb (fun e=>hm (e ▸ hg))⟩
theorem KM.below {B:Nat}(h:KM M w w') (hB:B<=w.heap.size) (hM:∀b∈M,B<=b):Below B w w':=⟨h.os,h.tape,h.output,h.size,fun b hb=>h.block b (by omega) (fun hm=>by have:=hM b hm;omega)⟩
theorem KM.blk {b:Nat}{t:TypeId}{cs:Array Value}(h:KM M w w') (hk:Blk w b t cs) (hb:b ∉ M):Blk w' b t cs:=(h.block b hk.lt hb).trans hk
end
theorem zRp {w:World}{g:Nat}{t:TypeId}(h:Blk w g t #[.int .u32 1]):SL w (some ⟨g,0,none⟩) 1 1 [1]:=
 ⟨rfl,by omega,by omega,by intro x hx;simp at hx;omega,fun _=>⟨g,0,rfl,h.lt,fun j x hj=>by
  match j,hj with
  | 0,hj=>simp at hj;subst hj;exact h.cell 0
  | j+1,hj=>simp at hj⟩⟩
theorem zKc (vs:List Value) (x:Ct) (b:Int) (w:World) (h:RC w vs x) (hx:BdC x) (ht:zBx w):Calls Tryz.prog 16 #[.agg vs.toArray,.int .i64 b] w (zVx (zBn x b) w):=by
 have hr:=h;obtain ⟨xA,xn,xc,xB,xm,xd,xC,xp,xq,xL,xln,xlc,rfl,-,-,-,-⟩:=h;have HT:=Zh (fun W (hb:Below w.heap.size w W)=>ht.next hb);have H1:=Zh (fun W (hb:Below w.heap.size w W)=>zBe _ x W (zAm w W _ _ hr hb) hx (ht.next hb));have H2:=Zh (fun (hv:ctV x=true) W (hb:Below w.heap.size w W)=>zHS _ x W (zAm w W _ _ hr hb) hx hv);have htl:=ht.lt;clear hr hx ht;have hW1:=zAE w (.cells #[.int .i64 x.prec,.int .i64 x.order,.slice xA xn xc,.slice xB xm xd,.slice xC xp xq,.slice xL xln xlc] 29);have hW2:=zAE (w.alloc (.cells #[.int .i64 x.prec,.int .i64 x.order,.slice xA xn xc,.slice xB xm xd,.slice xC xp xq,.slice xL xln xlc] 29)) (.cells #[.int .i64 0,.int .i64 0,.slice none 0 0,.slice none 0 0,.slice none 0 0,.slice none 0 0] 29);have hb0:=zAA hW1 hW2;have kx:=(Blk.new w 29 #[.int .i64 x.prec,.int .i64 x.order,.slice xA xn xc,.slice xB xm xd,.slice xC xp xq,.slice xL xln xlc]).next hW2;have kr:Blk ((w.alloc (.cells #[.int .i64 x.prec,.int .i64 x.order,.slice xA xn xc,.slice xB xm xd,.slice xC xp xq,.slice xL xln xlc] 29)).alloc (.cells #[.int .i64 0,.int .i64 0,.slice none 0 0,.slice none 0 0,.slice none 0 0,.slice none 0 0] 29)) (w.heap.size+1) 29 #[.int .i64 0,.int .i64 0,.slice none 0 0,.slice none 0 0,.slice none 0 0,.slice none 0 0]:=Blk.newAt _ _ _ (by simp);have hsz:((w.alloc (.cells #[.int .i64 x.prec,.int .i64 x.order,.slice xA xn xc,.slice xB xm xd,.slice xC xp xq,.slice xL xln xlc] 29)).alloc (.cells #[.int .i64 0,.int .i64 0,.slice none 0 0,.slice none 0 0,.slice none 0 0,.slice none 0 0] 29)).heap.size=w.heap.size+2:=by simp
 have hsz1:=Ys hsz.symm;clear hW1 hW2 hsz;obtain ⟨cv,hcv⟩:∃cv,ctV x=cv:=⟨_,rfl⟩;rw [hcv] at H1;have HCV:=Zh hcv;clear hcv;obtain ⟨p0,p1,p2,p3,p4,p5⟩:=kx.cells6;go_enter Tryz.func16,Tryz.ntmps16
 go_wp2_with fail
 generalize ((w.alloc (.cells #[.int .i64 x.prec,.int .i64 x.order,.slice xA xn xc,.slice xB xm xd,.slice xC xp xq,.slice xL xln xlc] 29)).alloc (.cells #[.int .i64 0,.int .i64 0,.slice none 0 0,.slice none 0 0,.slice none 0 0,.slice none 0 0] 29))=W0 at *;refine (H1.out _ hb0).mono ?_;rintro e w1 ⟨rfl,hb1⟩
 clear p0 p1 p2 p3 p4 p5;have hs1:=hb1.size;replace kx:=kx.next hb1;replace kr:=kr.next hb1;replace hb0:=zAA hb0 hb1;clear hb1;cases cv
 ·have HP1:Hid (zBn x b=(zC0,1)):=by unfold Hid zBn;rw [if_pos HCV.out]
  clear kx;obtain ⟨r0,r1,r2,r3,r4,r5⟩:=(kr).cells6;have f0:=(kr).frozen 0;have f1:=(kr).frozen 1;have f2:=(kr).frozen 2;have f3:=(kr).frozen 3;have f4:=(kr).frozen 4;have f5:=(kr).frozen 5;have HRR:=Zh (kr);have HBB9:=Zh (hb0);go_wp2_with fail
  refine Yn (zBL Tryz.results16 rfl (HRR.out.set6 _ _ _ _ _ _)) rfl ?_;rw [HP1.out];exact ⟨_,rfl,rfl,zA3 _,zAS HBB9.out (by omega) _ _ _ _ _ _⟩
 by_cases hlo:b<0
 ·have HP1:Hid (zBn x b=(zC0,2)):=by unfold Hid zBn;rw [if_neg (by rw [HCV.out];decide),if_pos (.inl hlo)]
  clear kx;obtain ⟨r0,r1,r2,r3,r4,r5⟩:=(kr).cells6;have f0:=(kr).frozen 0;have f1:=(kr).frozen 1;have f2:=(kr).frozen 2;have f3:=(kr).frozen 3;have f4:=(kr).frozen 4;have f5:=(kr).frozen 5;have HRR:=Zh (kr);have HBB9:=Zh (hb0);go_wp2_with fail
  refine Yn (zBL Tryz.results16 rfl (HRR.out.set6 _ _ _ _ _ _)) rfl ?_;rw [HP1.out];exact ⟨_,rfl,rfl,zA3 _,zAS HBB9.out (by omega) _ _ _ _ _ _⟩
 by_cases hhi:200<b
 ·have HP1:Hid (zBn x b=(zC0,2)):=by unfold Hid zBn;rw [if_neg (by rw [HCV.out];decide),if_pos (.inr hhi)]
  clear kx;obtain ⟨r0,r1,r2,r3,r4,r5⟩:=(kr).cells6;have f0:=(kr).frozen 0;have f1:=(kr).frozen 1;have f2:=(kr).frozen 2;have f3:=(kr).frozen 3;have f4:=(kr).frozen 4;have f5:=(kr).frozen 5;have HRR:=Zh (kr);have HBB9:=Zh (hb0);go_wp2_with fail
  refine Yn (zBL Tryz.results16 rfl (HRR.out.set6 _ _ _ _ _ _)) rfl ?_;rw [HP1.out];exact ⟨_,rfl,rfl,zA3 _,zAS HBB9.out (by omega) _ _ _ _ _ _⟩
 have HP:Hid (zBn x b=if x.links.all (zLs (zD4 b))=true then (zQD (zD4 b) x,0) else (zC0,9)):=by unfold Hid zBn;rw [if_neg (by rw [HCV.out];decide),if_neg (by omega)]
 obtain ⟨p0,p1,p2,p3,p4,p5⟩:=kx.cells6;go_wp2_with fail
 refine (H2.out HCV.out _ hb0).mono ?_;rintro e w2 ⟨us,M,Ts,Rs,rfl,hu6,hm,hML,hold,hb3⟩
 clear p0 p1 p2 p3 p4 p5 kx;obtain ⟨A,n,c,B,m,d,C,p,q,L,ln,lc,rfl,hon,hlk⟩:=hm.cells;clear hm hu6;replace kr:=kr.next hb3;have hs2:=hb3.size;replace hb0:=zAA hb0 hb3;clear hb3;have hnb:IntKind.i64.wrap (-b) = -b:=IntWalk.i64_in _ (by omega);have hmf:∀ (fn:Fn) (first cap:Array Value) (w:World),(Instr.makeFunc fn first cap).run Tryz.prog w=.ok (.func fn first cap) w:=fun _ _ _ _=>rfl
 have hc1:=zAE w2 (.cells #[.int .i64 x.prec,.int .i64 x.order,.slice A n c,.slice B m d,.slice C p q,.slice L ln lc] 29);have hc2:=zAE (w2.alloc (.cells #[.int .i64 x.prec,.int .i64 x.order,.slice A n c,.slice B m d,.slice C p q,.slice L ln lc] 29)) (.cells #[.int .u32 1] 109);have hc3:=zAE ((w2.alloc (.cells #[.int .i64 x.prec,.int .i64 x.order,.slice A n c,.slice B m d,.slice C p q,.slice L ln lc] 29)).alloc (.cells #[.int .u32 1] 109)) (.cells #[.bool false,.slice (some ⟨w2.heap.size+1,0,none⟩) 1 1,.int .i64 (-b)] 41);have hc23:=zAA hc2 hc3;have hc:=zAA hc1 hc23;have kg:=(Blk.new w2 29 #[.int .i64 x.prec,.int .i64 x.order,.slice A n c,.slice B m d,.slice C p q,.slice L ln lc]).next hc23;have ku:=(Blk.newAt (w2.alloc (.cells #[.int .i64 x.prec,.int .i64 x.order,.slice A n c,.slice B m d,.slice C p q,.slice L ln lc] 29)) 109 #[.int .u32 1] (g:=w2.heap.size+1) (by simp)).next hc3;have ke:Blk (((w2.alloc (.cells #[.int .i64 x.prec,.int .i64 x.order,.slice A n c,.slice B m d,.slice C p q,.slice L ln lc] 29)).alloc (.cells #[.int .u32 1] 109)).alloc (.cells #[.bool false,.slice (some ⟨w2.heap.size+1,0,none⟩) 1 1,.int .i64 (-b)] 41)) (w2.heap.size+1+1) 41 #[.bool false,.slice (some ⟨w2.heap.size+1,0,none⟩) 1 1,.int .i64 (-b)]:=Blk.newAt _ _ _ (by simp);have hsz3:(((w2.alloc (.cells #[.int .i64 x.prec,.int .i64 x.order,.slice A n c,.slice B m d,.slice C p q,.slice L ln lc] 29)).alloc (.cells #[.int .u32 1] 109)).alloc (.cells #[.bool false,.slice (some ⟨w2.heap.size+1,0,none⟩) 1 1,.int .i64 (-b)] 41)).heap.size=w2.heap.size+3:=by simp
 have hsz4:=Ys hsz3.symm;have HON:=Zh (On.km (N:=[]) hon (KM.of hc) (by simp));have HLK:=Zh (hlk.below hc);have HKG:=Zh kg;have HKU:=Zh ku;have HKE:=Zh ke;have HKR:=Zh (kr.next hc);have HBB:=Zh (zAA hb0 hc);have HML:=Zh hML;have HLO:=Zh (fun b (hb:b∈Ts++Rs)=>show w.heap.size+2<=b from by
  rcases Xj b (w.heap.size+2) with h | h
  ·exact absurd hb (hold b (by omega)).2
  ·exact h)
 have HG4:=Zh (hold (w.heap.size+1) (by omega));have HLN:=Zh hlk.len;have hln:ln<=1000:=by rw [<- hlk.len];exact (zBM HCV.out).2.2.2.2.2.2.2.2.2
 have HSG:=Zh (fun y (hy:y∈x.links)=>szG ((zBM HCV.out).2.2.1 y hy));have HEB:=Zh (show (zD4 b)=⟨false,[1],-b⟩ from rfl);obtain ⟨p0,p1,p2,p3,p4,p5⟩:=kg.cells6;clear hon hlk kg ku ke kr hML hold hb0 hc hc1 hc2 hc3 hc23 hsz3;go_wp2_with fail
 clear p0 p1 p2 p3 p4 p5 hmf hnb;generalize (((w2.alloc (.cells #[.int .i64 x.prec,.int .i64 x.order,.slice A n c,.slice B m d,.slice C p q,.slice L ln lc] 29)).alloc (.cells #[.int .u32 1] 109)).alloc (.cells #[.bool false,.slice (some ⟨w2.heap.size+1,0,none⟩) 1 1,.int .i64 (-b)] 41))=W3 at *
 go_loopw [34] (fun i wr=>∃k:Nat,k<=ln/\i=.int .i64 k/\Hid (zHU wr L ln lc M Ts Rs ((x.links.take k).map (zRT (zD4 b))++x.links.drop k))/\Hid (KM (Ts++Rs) W3 wr)/\Hid ((x.links.take k).all (zLs (zD4 b))=true)) (fun i _=>ln - (intOf i).toNat)
 case atStart=>exact ⟨0,by omega,rfl,by simpa [Hid] using HLK.out,KM.refl _ _,by simp [Hid]⟩
 case round=>
  obtain ⟨k,hk,rfl,HQ,HK,HO⟩:=hrel;have hwr:=HK.out.size;have hbr:=Zh (HBB.out.trans (HK.out.below (B:=w.heap.size) (by omega) (fun b hb=>by have:=HLO.out b hb;omega)));have HRr:=Zh (HK.out.blk HKR.out HG4.out.2);by_cases hlt:k<ln
  ·have hkx:k<x.links.length:=by rw [HLN.out];exact hlt
   have hx:x.links[k]? = some x.links[k]:=Yo hkx;have hmem:=List.getElem_mem hkx;have HZ:=Zh (HSG.out _ hmem);have HMEM:=Zh hmem;generalize x.links[k]=y at *;have HX:=Zh hx;obtain ⟨g,vs8,T,R,rfl,hgl,hgM,hT,hR,hcell,hm⟩:=HQ.out.get (zIf hx);obtain ⟨H,hn,hcc,tn,tc,A1,n1,c1,B1,m1,d1,pp,qq,V,vn,vc,rfl,a1,a2,a3,a4,a5⟩:=hm.cells;have hTl:=a4.lt;have hRl:=a5.lt;have mT:T∈Ts++Rs:=Yt.2 (.inl (Yk hT));have mR:R∈Ts++Rs:=Yt.2 (.inr (Yk hR));have hTo:=HLO.out T mT;have hRo:=HLO.out R mR;have hT2:=HML.out T (HQ.out.sub _ mT);have hR2:=HML.out R (HQ.out.sub _ mR);have z0:wr.cell? ⟨g,k*8,none⟩=some (.bool y.h.neg):=hcell 0 _ rfl;have z1:wr.cell? ⟨g,k*8+1,none⟩=some (.slice H hn hcc):=hcell 1 _ rfl;have z2:wr.cell? ⟨g,k*8+2,none⟩=some (.int .i64 y.h.e):=hcell 2 _ rfl;have z3:wr.cell? ⟨g,k*8+3,none⟩=some (.slice (some ⟨T,0,none⟩) tn tc):=hcell 3 _ rfl;have z4:wr.cell? ⟨g,k*8+4,none⟩=some (.slice A1 n1 c1):=hcell 4 _ rfl;have z5:wr.cell? ⟨g,k*8+5,none⟩=some (.slice B1 m1 d1):=hcell 5 _ rfl;have z6:wr.cell? ⟨g,k*8+6,none⟩=some (.slice (some ⟨R,0,none⟩) pp qq):=hcell 6 _ rfl;have z7:wr.cell? ⟨g,k*8+7,none⟩=some (.slice V vn vc):=hcell 7 _ rfl;have hb4:=zAE wr (.cells #[.bool y.h.neg,.slice H hn hcc,.int .i64 y.h.e,.slice (some ⟨T,0,none⟩) tn tc,.slice A1 n1 c1,.slice B1 m1 d1,.slice (some ⟨R,0,none⟩) pp qq,.slice V vn vc] 86);have hz1:(wr.alloc (.cells #[.bool y.h.neg,.slice H hn hcc,.int .i64 y.h.e,.slice (some ⟨T,0,none⟩) tn tc,.slice A1 n1 c1,.slice B1 m1 d1,.slice (some ⟨R,0,none⟩) pp qq,.slice V vn vc] 86)).heap.size=wr.heap.size+1:=by simp
   have hz2:=Ys hz1;have hz3:=Ys hz1.symm;clear hz1;have kl:=Blk.new wr 86 #[.bool y.h.neg,.slice H hn hcc,.int .i64 y.h.e,.slice (some ⟨T,0,none⟩) tn tc,.slice A1 n1 c1,.slice B1 m1 d1,.slice (some ⟨R,0,none⟩) pp qq,.slice V vn vc];have htn:tn<=1000:=by have:=HZ.out.t;have:=a2.1;omega
   have hpp:pp<=1000:=by have:=HZ.out.r;have:=a3.1;omega
   have hge:w2.heap.size+1+1 ∉ Ts++Rs:=fun h=>by have:=HML.out _ (HQ.out.sub _ h);omega
   have hguM:w2.heap.size+1 ∉ M:=fun h=>by have:=HML.out _ h;omega
   have HSE:=Zh (fun (W:World) (hs:wr.heap.size<=W.heap.size) (hW:∀b,zDc wr M b->W.heap[b]? = wr.heap[b]?)=>zRp (show Blk W (w2.heap.size+1) _ _ from (hW _ ⟨by omega,hguM⟩).trans (HK.out.blk HKU.out (fun h=>hguM (HQ.out.sub _ h)))));have hbr1:=hbr.out.trans (hb4.mono hbr.out.size);have HG1:=Zh (zLn T (w2.heap.size+1+1) M tn tc y.tube (zD4 b) (some ⟨w2.heap.size+1,0,none⟩) 1 1 (wr.alloc (.cells #[.bool y.h.neg,.slice H hn hcc,.int .i64 y.h.e,.slice (some ⟨T,0,none⟩) tn tc,.slice A1 n1 c1,.slice B1 m1 d1,.slice (some ⟨R,0,none⟩) pp qq,.slice V vn vc] 86))
    ((a4.move (hb4.block T hTl) (fun b hb=>hb4.block b hb.1)).sub hb4.size (fun b hb=>⟨Yh hb.1 hb4.size,hb.2⟩)) a2.1 htn a2.2.1 a2.2.2 (HQ.out.sub _ mT) (fun b hb=>by have:=HML.out b hb;omega) (HT.out _ hbr1) (by omega)
    ((HK.out.blk HKE.out hge).next hb4) (by omega) (fun W h1 h2=>HSE.out W (by omega) (fun b hb=>(h2 b ⟨Yh hb.1 hb4.size,hb.2⟩).trans (hb4.block b hb.1))) (by rw [HEB.out];simp) HZ.out.ta HZ.out.tb)
   have HKLr:=Zh kl;have HB4:=Zh hb4;have HBR1:=Zh hbr1;have HA5:=Zh (a5.move (hb4.block R hRl) (fun b hb=>hb4.block b hb.1) |>.sub hb4.size (fun b hb=>(⟨Yh hb.1 hb4.size,hb.2⟩:zDc (wr.alloc (.cells #[.bool y.h.neg,.slice H hn hcc,.int .i64 y.h.e,.slice (some ⟨T,0,none⟩) tn tc,.slice A1 n1 c1,.slice B1 m1 d1,.slice (some ⟨R,0,none⟩) pp qq,.slice V vn vc] 86)) M b)));have HL1:=Zh (HQ.out.below hb4);have HR1:=Zh (HRr.out.next hb4);have HKM1:=Zh (HK.out.trans (KM.of hb4));have HTR:=Zh hm.ne;have HA3:=Zh a3;have HTs:=Zh hT;have HRs:=Zh hR;have hre:=HL1.out;obtain ⟨s0,s1,s2,s3,s4,s5,s6,s7⟩:=kl.cells8;clear hre hm a1 a2 a3 a4 a5 hb4 hbr1 kl hx hcell hT hR;go_wp2_with fail
   clear z0 z1 z2 z3 z4 z5 z6 z7 s0 s1 s2 s3 s4 s5 s6 s7;generalize wr.alloc (.cells #[.bool y.h.neg,.slice H hn hcc,.int .i64 y.h.e,.slice (some ⟨T,0,none⟩) tn tc,.slice A1 n1 c1,.slice B1 m1 d1,.slice (some ⟨R,0,none⟩) pp qq,.slice V vn vc] 86)=W1 at *;obtain ⟨b1,hb1⟩:∃b1,y.tube.all (wdK (zD4 b))=b1:=⟨_,rfl⟩;rw [hb1] at HG1;have HB1:=Zh hb1;clear hb1;refine HG1.out.mono ?_;rintro e w4 ⟨rfl,hkr1,hrow1⟩
   have hs4:=hkr1.size;have HKR1:=Zh hkr1;have HROW1:=Zh hrow1;clear hkr1 hrow1 HG1;cases b1
   ·have HP1:Hid (zBn x b=(zC0,9)):=by
     unfold Hid;rw [HP.out,if_neg];rw [Bool.not_eq_true,List.all_eq_false];exact ⟨y,HMEM.out,by unfold zLs;rw [HB1.out];simp⟩
    obtain ⟨r0,r1,r2,r3,r4,r5⟩:=(HKR1.out.blk HR1.out (by omega)).cells6;have f0:=(HKR1.out.blk HR1.out (by omega)).frozen 0;have f1:=(HKR1.out.blk HR1.out (by omega)).frozen 1;have f2:=(HKR1.out.blk HR1.out (by omega)).frozen 2;have f3:=(HKR1.out.blk HR1.out (by omega)).frozen 3;have f4:=(HKR1.out.blk HR1.out (by omega)).frozen 4;have f5:=(HKR1.out.blk HR1.out (by omega)).frozen 5;have HRR:=Zh (HKR1.out.blk HR1.out (by omega));have HBB9:=Zh (HBR1.out.trans (HKR1.out.below (B:=w.heap.size) (by omega) (by omega)));go_wp2_with fail
    refine Yn (zBL Tryz.results16 rfl (HRR.out.set6 _ _ _ _ _ _)) rfl ?_;rw [HP1.out];exact ⟨_,rfl,rfl,zA3 _,zAS HBB9.out (by omega) _ _ _ _ _ _⟩
   have HKL4:=Zh (HKR1.out.blk HKLr.out (by omega));have hb40:=HBR1.out.trans (HKR1.out.below (B:=w.heap.size) (by omega) (by omega));have hge1:w2.heap.size+1+1 ∉ Ts++Rs:=hge;have HG2:=Zh (zLn R (w2.heap.size+1+1) M pp qq y.e.r (zD4 b) (some ⟨w2.heap.size+1,0,none⟩) 1 1 w4
    ((HA5.out.move (HKR1.out.block R (by omega) HTR.out.symm) (fun b hb=>HKR1.out.block b hb.1 (fun e=>hb.2 (e ▸ HL1.out.sub _ mT)))).sub HKR1.out.size (fun b hb=>⟨Yh hb.1 HKR1.out.size,hb.2⟩)) HA3.out.1 hpp HA3.out.2.1 HA3.out.2.2 (HL1.out.sub _ mR) (fun b hb=>by have:=HML.out b hb;omega) (HT.out _ hb40) (by omega)
    ((HKR1.out.km mT).blk (HKM1.out.blk HKE.out hge) hge) (by omega) (fun W h1 h2=>HSE.out W (by omega) (fun b hb=>(h2 b ⟨by have:=hb.1;omega,hb.2⟩).trans ((HKR1.out.block b (by have:=hb.1;omega) (fun e=>hb.2 (e ▸ HL1.out.sub _ mT))).trans (HB4.out.block b hb.1)))) (by rw [HEB.out];simp) HZ.out.ra HZ.out.rb)
   have HB40:=Zh hb40;obtain ⟨s0,s1,s2,s3,s4,s5,s6,s7⟩:=HKL4.out.cells8;clear hb40;go_wp2_with fail
   clear s0 s1 s2 s3 s4 s5 s6 s7;obtain ⟨b2,hb2⟩:∃b2,y.e.r.all (wdK (zD4 b))=b2:=⟨_,rfl⟩;rw [hb2] at HG2;have HB2:=Zh hb2;clear hb2;refine HG2.out.mono ?_;rintro e w5 ⟨rfl,hkr2,hrow2⟩
   have hs5:=hkr2.size;have HKR2:=Zh hkr2;have HROW2:=Zh hrow2;clear hkr2 hrow2 HG2;cases b2
   ·have HP1:Hid (zBn x b=(zC0,9)):=by
     unfold Hid;rw [HP.out,if_neg];rw [Bool.not_eq_true,List.all_eq_false];exact ⟨y,HMEM.out,by unfold zLs;rw [HB2.out];simp⟩
    obtain ⟨r0,r1,r2,r3,r4,r5⟩:=(HKR2.out.blk (HKR1.out.blk HR1.out (by omega)) (by omega)).cells6;have f0:=(HKR2.out.blk (HKR1.out.blk HR1.out (by omega)) (by omega)).frozen 0;have f1:=(HKR2.out.blk (HKR1.out.blk HR1.out (by omega)) (by omega)).frozen 1;have f2:=(HKR2.out.blk (HKR1.out.blk HR1.out (by omega)) (by omega)).frozen 2;have f3:=(HKR2.out.blk (HKR1.out.blk HR1.out (by omega)) (by omega)).frozen 3;have f4:=(HKR2.out.blk (HKR1.out.blk HR1.out (by omega)) (by omega)).frozen 4;have f5:=(HKR2.out.blk (HKR1.out.blk HR1.out (by omega)) (by omega)).frozen 5;have HRR:=Zh (HKR2.out.blk (HKR1.out.blk HR1.out (by omega)) (by omega));have HBB9:=Zh (HB40.out.trans (HKR2.out.below (B:=w.heap.size) (by omega) (by omega)));go_wp2_with fail
    refine Yn (zBL Tryz.results16 rfl (HRR.out.set6 _ _ _ _ _ _)) rfl ?_;rw [HP1.out];exact ⟨_,rfl,rfl,zA3 _,zAS HBB9.out (by omega) _ _ _ _ _ _⟩
   go_wp2_with fail
   go_roundw
   case rel=>
    refine ⟨k+1,by omega,by go_num,?_,HKM1.out.trans ((HKR1.out.km mT).trans (HKR2.out.km mR)),?_⟩
    ·have L2:=HL1.out.tube (t:=y.tube.map (wdn (zD4 b))) (zIf HX.out) HTs.out (by rw [Xe]) HKR1.out.size (fun b hb hne=>HKR1.out.block b hb hne) (HROW1.out (by simp))
     have L3:=L2.end_ (k:=k) (t:=y.e.r.map (wdn (zD4 b))) (List.getElem?_set_self (by rw [zLo];exact hkx)) HRs.out (by rw [Xe]) HKR2.out.size (fun b hb hne=>HKR2.out.block b hb hne) (HROW2.out (by simp));rw [List.set_set] at L3
     show zHU _ _ _ _ _ _ _ _
     rw [<- zJi HX.out];exact L3
    ·show List.all _ _=true
     rw [List.take_add_one,HX.out,List.all_append,HO.out];simp [zLs,HB1.out,HB2.out]
   case measure=>simp [intOf];omega
  ·obtain rfl:ln=k:=by omega
   have hmn:x.links.take ln=x.links:=Xd (by rw [HLN.out];exact Ya _);have hdn:x.links.drop ln=[]:=List.drop_eq_nil_of_le (by rw [HLN.out];exact Ya _);have HQ2:=HQ.out;rw [hmn,hdn,List.append_nil] at HQ2;have HO2:=HO.out;rw [hmn] at HO2;have HP1:Hid (zBn x b=(zQD (zD4 b) x,0)):=by unfold Hid;rw [HP.out,if_pos HO2]
   have hgg:w2.heap.size ∉ Ts++Rs:=fun h=>by have:=HML.out _ (HQ.out.sub _ h);omega
   replace HQ2:=Zh HQ2;have kg:=HK.out.blk HKG.out hgg;obtain ⟨s0,s1,s2,s3,s4,s5⟩:=kg.cells6;obtain ⟨r0,r1,r2,r3,r4,r5⟩:=HRr.out.cells6;have f0:=HRr.out.frozen 0;have f1:=HRr.out.frozen 1;have f2:=HRr.out.frozen 2;have f3:=HRr.out.frozen 3;have f4:=HRr.out.frozen 4;have f5:=HRr.out.frozen 5;clear kg HO2 hmn hdn;go_wp2_with fail
   refine Yn (zBL Tryz.results16 rfl (HRr.out.set6 _ _ _ _ _ _)) rfl ?_;rw [HP1.out];have hfs:((((((wr.setCell ⟨w.heap.size+1,0,none⟩ (.int .i64 x.prec)).setCell ⟨w.heap.size+1,1,none⟩ (.int .i64 x.order)).setCell ⟨w.heap.size+1,2,none⟩ (.slice A n c)).setCell ⟨w.heap.size+1,3,none⟩ (.slice B m d)).setCell ⟨w.heap.size+1,4,none⟩ (.slice C p q)).setCell ⟨w.heap.size+1,5,none⟩ (.slice L ln lc)).heap.size=wr.heap.size:=zBz _ _ _ _ _ _;have hmv:∀b,b≠w.heap.size+1->((((((wr.setCell ⟨w.heap.size+1,0,none⟩ (.int .i64 x.prec)).setCell ⟨w.heap.size+1,1,none⟩ (.int .i64 x.order)).setCell ⟨w.heap.size+1,2,none⟩ (.slice A n c)).setCell ⟨w.heap.size+1,3,none⟩ (.slice B m d)).setCell ⟨w.heap.size+1,4,none⟩ (.slice C p q)).setCell ⟨w.heap.size+1,5,none⟩ (.slice L ln lc)).heap[b]? = wr.heap[b]?:=fun b hb=>zBy hb _ _ _ _ _ _
   have hne:∀b,b ∉ M->b≠w.heap.size+1:=fun b hb e=>hb (e ▸ HG4.out.1)
   have hbe:=zAS hbr.out (show w.heap.size<=w.heap.size+1 by omega) (.int .i64 x.prec) (.int .i64 x.order) (.slice A n c) (.slice B m d) (.slice C p q) (.slice L ln lc);refine ⟨_,rfl,rfl,?_,hbe⟩;have L2:=HQ2.out.keep (Ys hfs.symm) (fun b hb hor=>hmv b (by
    rcases hor with h | h
    ·exact hne b h
    ·have:=HLO.out b h
     omega))
   have hon:=(HON.out.km HK.out HQ.out.sub);have hon2:=(hon.move (fun b hb=>hmv b (hne b hb.2))).sub (E':=((((((wr.setCell ⟨w.heap.size+1,0,none⟩ (.int .i64 x.prec)).setCell ⟨w.heap.size+1,1,none⟩ (.int .i64 x.order)).setCell ⟨w.heap.size+1,2,none⟩ (.slice A n c)).setCell ⟨w.heap.size+1,3,none⟩ (.slice B m d)).setCell ⟨w.heap.size+1,4,none⟩ (.slice C p q)).setCell ⟨w.heap.size+1,5,none⟩ (.slice L ln lc)).heap.size) (F':=zDc ((((((wr.setCell ⟨w.heap.size+1,0,none⟩ (.int .i64 x.prec)).setCell ⟨w.heap.size+1,1,none⟩ (.int .i64 x.order)).setCell ⟨w.heap.size+1,2,none⟩ (.slice A n c)).setCell ⟨w.heap.size+1,3,none⟩ (.slice B m d)).setCell ⟨w.heap.size+1,4,none⟩ (.slice C p q)).setCell ⟨w.heap.size+1,5,none⟩ (.slice L ln lc)) M) (Ys hfs.symm) (fun b hb=>⟨by rw [hfs];exact hb.1,hb.2⟩);exact CtM.rc (x:=zQD (zD4 b) x) ⟨⟨A,n,c,B,m,d,C,p,q,L,_,lc,rfl,hon2,L2⟩⟩
structure zHf {α:Type}(e:TypeId) (k:Nat) (R:World->List Value->α->Prop) (G:Nat->Prop) (base:Nat) (w:World) (v:Value) (fs:List (List Value)) (xs:List α):Prop where
 own:zKf e k w base v fs
 len:xs.length=fs.length
 each:∀ (j:Nat) (f:List Value) (x:α),fs[j]? = some f->xs[j]? = some x->On w.heap.size (fun b=>b<w.heap.size/\(G b\/base<=b)/\v.ownBlock≠some b) w (fun W=>R W f x)
section
variable {α:Type}{e:TypeId}{k:Nat}{R:World->List Value->α->Prop}{G:Nat->Prop}{base:Nat}{w w':World}{v:Value}{fs:List (List Value)}{xs:List α}
theorem zHf.nil (e:TypeId) (k:Nat) (R:World->List Value->α->Prop) (G:Nat->Prop) {base:Nat}(w:World):zHf e k R G base w (.slice none 0 0) [] []:=⟨zKf.nil _ _ _ _,rfl,fun j f x h=>by simp at h⟩
theorem zHf.keep (h:zHf e k R G base w v fs xs) (hs:w.heap.size<=w'.heap.size) (hb:∀b,b<w.heap.size->(G b\/base<=b)->w'.heap[b]? = w.heap[b]?):zHf e k R G base w' v fs xs:=by
 refine ⟨⟨⟨h.own.own.1,?_⟩,h.own.len⟩,h.len,fun j f x hf hx=>?_⟩
 ·rcases h.own.own.2 with hn | ⟨g,cap,cur,hv,hbg,hg,rest⟩
  ·exact .inl hn
  ·exact .inr ⟨g,cap,cur,hv,hbg,(hb g (Yv.1 hg).1 (.inr hbg)).trans hg,rest⟩
 ·exact ((h.each j f x hf hx).move (fun b hF=>hb b hF.1 hF.2.1)).sub hs (fun b hF=>⟨Yh hF.1 hs,hF.2⟩)
theorem zHf.below (h:zHf e k R G base w v fs xs) (hb:Below w.heap.size w w'):zHf e k R G base w' v fs xs:=h.keep hb.size (fun b h2 _=>hb.block b h2)
theorem zHf.next (hacc:zHf e k R G base w v fs xs) {v':Value}{f:List Value}{y:α}(hGl:∀b,G b->b<base)
  (h2:w'.ownsRow base e k v' (fs.length+1) (fs.flatten++f)) (h3:w.grownBy w' v.ownBlock) (h5:v'.ownBlock=v.ownBlock\/v'.ownBlock=some w.heap.size) (hn:f.length=k)
  (hR:On w.heap.size (fun b=>b<w.heap.size/\(G b\/base<=b)/\v.ownBlock≠some b) w (fun W=>R W f y)) :
  zHf e k R G base w' v' (fs++[f]) (xs++[y]):=by
 have key:∀ (u:List Value) (x:α),On w.heap.size (fun b=>b<w.heap.size/\(G b\/base<=b)/\v.ownBlock≠some b) w (fun W=>R W u x)->On w'.heap.size (fun b=>b<w'.heap.size/\(G b\/base<=b)/\v'.ownBlock≠some b) w' (fun W=>R W u x):=by
  intro u x h;refine (h.move (fun b hF=>h3.block b hF.1 (fun e=>hF.2.2 e.symm))).sub h3.size (fun b hF=>⟨Yh hF.1 h3.size,hF.2.1,fun e=>?_⟩);rcases h5 with h5 | h5
  ·exact hF.2.2 (by rw [<- h5];exact e)
  ·rw [h5] at e
   injection e with e
   have:=hF.1;omega
 refine ⟨⟨?_,?_⟩,?_,?_⟩
 ·rw [Yu,List.flatten_append];simpa using h2
 ·intro f' hf
  rcases Yt.1 hf with hf | hf
  ·exact hacc.own.len f' hf
  ·rw [List.mem_singleton.1 hf];exact hn
 ·rw [Yu,Yu,hacc.len];rfl
 ·intro j f' x' hf hx'
  by_cases hj:j<fs.length
  ·rw [Yw hj] at hf
   rw [Yw (by rw [hacc.len];exact hj)] at hx';exact key _ _ (hacc.each j f' x' hf hx')
  ·have hj':j<(fs++[f]).length:=(Yb.1 hf).1
   have hj2:j=fs.length:=by simp at hj';omega
   subst hj2;rw [Yx (Ya _),Nat.sub_self] at hf;rw [Yx (by rw [hacc.len];exact Ya _),hacc.len,Nat.sub_self] at hx';simp at hf hx';subst hf hx';exact key _ _ hR
theorem zHf.on (h:zHf e k R G base w v fs xs):∃A c,v=.slice A xs.length c/\(∀ad,A=some ad->base<=ad.block)/\On w.heap.size (fun b=>b<w.heap.size/\(G b\/base<=b)) w (fun W=>Sl k R W A xs.length c xs):=by
 obtain ⟨A,c,hv,_,_⟩:=h.own.form;rw [<- h.len] at hv;refine ⟨A,c,hv,fun ad hA=>?_,fun W h1 h2=>?_⟩
 ·have:=(h.own.lt ad.block (by rw [hv,hA];rfl)).1
  exact this
 have h':zHf e k R G base W v fs xs:=h.keep h1 (fun b hb hF=>h2 b ⟨hb,hF⟩);obtain ⟨A',c',hv',hs⟩:=h'.own.sl (R:=R) (xs:=xs) h.len (fun j f x hf hx=>(h'.each j f x hf hx).here (Ya _));rw [<- h.len] at hv' hs;rw [hv] at hv';injection hv' with e1 e2 e3
 subst e1 e3;exact hs
end
section
variable {P:Program}{α:Type}{R:World->List Value->α->Prop}{G:Nat->Prop}
theorem zEn {w:World}{ops:Array Oper}{rest:List Oper}{o:Oper}{a:Act}{Q:Exit->Act->World->Prop}(hgd:o.guard=none) (s x:Operand) (t:TypeId)
  (ho:o.op=.call { callee:=.builtin .append,args:=#[s,x],argTypes:=#[t,t] })
  (e:TypeId) (k bytes:Nat) (z:Value) (hinfo:(P.info? e).map (fun i=>(i.zero,i.size,i.bytes))=some (some z,k,bytes)) (hz:z.cells.size=k) (hk:0<k) (hby:bytes<=1000) (ht:P.underlying t=some (.slice e))
  (base:Nat) (v:Value) (fs:List (List Value)) (xs:List α) (hs:a.eval s=v) (hacc:zHf e k R G base w v fs xs)
  (ad:Addr) (c:Nat) (f:List Value) (y:α) (hx:a.eval x=.slice (some ad) 1 c) (hn:f.length=k) (hc:∀ (j:Nat) (u:Value),f[j]? = some u->w.cell? (ad.add j)=some u) (h1:∀u∈f,u.oneCell' = true)
  (hlen:fs.length<=1000000) (hbase:base<=w.heap.size) (hGl:∀b,G b->b<base)
  (hR:On w.heap.size (fun b=>b<w.heap.size/\(G b\/base<=b)/\v.ownBlock≠some b) w (fun W=>R W f y))
  (h:∀v' w',zHf e k R G base w' v' (fs++[f]) (xs++[y])->Below base w w'->w.grownBy w' v.ownBlock->wpList P ops Q rest (a.put o.dst v') w'):wpList P ops Q (o::rest) a w:=by
 obtain ⟨i,hi,hz',hsize,hb'⟩:=info_parts hinfo;refine wpList_append_own_at _ hgd s x t ho base e i z k bytes ht hi hz' hsize hb' hz hk v fs.length fs.flatten hs hacc.own.own ad 1 c f hx (by omega) hc h1 (by simp only [maxLen];omega) ?_ hbase (fun v' w' h2 h3 _ h5=>?_)
 ·exact Yq (Nat.mul_le_mul (show fs.length+1<=1000001 by omega) hby) (by omega)
 ·exact h v' w' (hacc.next hGl h2 h3 h5 hn hR) ((Yp _ _).grown h3 hbase (fun k hk=>(hacc.own.lt k hk).1)) h3
end
end Go.Proofs.YtchkfjgcbbbffaaGreatDoor
end
