/- Bundle 15: what the law's walk stands on: S47, S48, S49, S22, S50, S51, S52, S24. -/
import Derived.Test.YtchkfjgcbbbffaaGreatDoorW10
import Derived.Test.YtchkfjgcbbbffaaGreatDoorW13
import Derived.Test.YtchkfjgcbbbffaaGreatDoorW14
set_option maxRecDepth 100000
set_option maxHeartbeats 20000000
set_option linter.all false
noncomputable section
namespace Go.Proofs.YtchkfjgcbbbffaaGreatDoor
open Go.RowKit Pl Go.Shelf
def ptR (l:List Dy):List Iv:=l.map fun d=>⟨d,d,false⟩
theorem zqK (n:Nat):madeCells (Value.slice none 0 0).cells (n*1)=(List.replicate n (Value.slice none 0 0)).toArray:=by
 apply Array.ext_getElem?
 intro i;simp only [madeCells,Nat.mul_one,List.getElem?_toArray,Array.getElem?_map,Value.cells];by_cases h:i<n
 ·simp [h,Nat.mod_one]
 ·simp [h]
section
variable {P:Program}{w:World}{ops:Array Oper}{rest:List Oper}{o:Oper}{a:Act}{Q:Exit->Act->World->Prop}
theorem zoj (hg:o.guard=none) (l c:Operand) (t e:TypeId) (hop:o.op=Op.makeSlice t l c)
  (hinfo:(P.info? e).map (fun i=>(i.zero,i.size,i.bytes))=some (some (.slice none 0 0),1,24)) (ht:P.underlying t=some (.slice e))
  (kl kc:IntKind) (L C:Int) (n:Nat) (hl:a.eval l=.int kl L) (hc:a.eval c=.int kc C) (hL:L=(n:Int)) (hC:C=(n:Int)) (hm:n<=1000000)
  (hK:∀w1,Blk w1 w.heap.size e (List.replicate n (Value.slice none 0 0)).toArray->Below w.heap.size w w1->w1.heap.size=w.heap.size+1->wpList P ops Q rest (a.put o.dst (.slice (some ⟨w.heap.size,0,none⟩) n n)) w1) :
  wpList P ops Q (o::rest) a w:=by
 obtain ⟨i,hi,hz,hsize,hby⟩:=info_parts hinfo;refine wpList_plain hg fun K hK'=>?_
 have hrun:=run_make (P:=P) w t e i (.slice none 0 0) ht hi hz kl kc (n:Int) (n:Int) (by omega) (by omega) (by rw [hby];omega) (by omega);simp only [Int.toNat_natCast,hsize,zqK] at hrun;unfold Oper.wp execOp;simp only [hop,hl,hc,hL,hC,Sem.run_bind,Sem.run_pure,Result.andThen_ok,hrun];refine hK' _ _ (hK _ (Blk.new _ _ _) ((Yp _ _).alloc (Ya _) _) (by simp))
end
structure Rws (lo g:Nat) (w:World) (L:List (List Iv)) (vs:List Value):Prop where
 blk:Blk w g 24 vs.toArray
 len:vs.length=L.length
 le:lo<=g
 row:∀ (i:Nat) (v:Value) (x:List Iv),vs[i]? = some v->L[i]? = some x->∃fs,zmc 43 7 RI lo lo w v fs x
 nb:∀ (i:Nat) (v:Value),vs[i]? = some v->v.ownBlock≠some g
 dj:∀ (i j:Nat) (v u:Value),i≠j->vs[i]? = some v->vs[j]? = some u->Dj v u
theorem Rws.below {lo g:Nat}{w w':World}{L:List (List Iv)}{vs:List Value}(h:Rws lo g w L vs) (hb:Below w.heap.size w w'):Rws lo g w' L vs:=
 ⟨h.blk.next hb,h.len,h.le,fun i v x hv hx=>by
  obtain ⟨fs,ha⟩:=h.row i v x hv hx;exact ⟨fs,ha.below (Yq h.le (Nat.le_of_lt h.blk.lt)) hb⟩,h.nb,h.dj⟩
theorem Rws.new {lo g:Nat}{w:World}{n:Nat}(h:Blk w g 24 (List.replicate n (Value.slice none 0 0)).toArray) (hl:lo<=g):Rws lo g w (List.replicate n []) (List.replicate n (Value.slice none 0 0)):=by
 have key:∀ (i:Nat) (v:Value),(List.replicate n (Value.slice none 0 0))[i]? = some v->v=.slice none 0 0:=fun i v hv=>by
  rw [List.getElem?_replicate] at hv
  split at hv
  ·injection hv with hv;exact hv.symm
  ·cases hv
 refine ⟨h,by simp,hl,fun i v x hv hx=>?_,fun i v hv=>?_,fun i j v u _ hv _=>?_⟩
 ·rw [List.getElem?_replicate] at hx
  split at hx
  ·injection hx with hx
   subst hx;rw [key i v hv];exact ⟨[],zmc.nil _ _ _ (Ya _) _⟩
  ·cases hx
 ·rw [key i v hv];intro e;cases e
 ·rw [key i v hv];exact Dj.nil
theorem Rws.put {lo g k:Nat}{w w':World}{L:List (List Iv)}{vs:List Value}{v v':Value}{x:List Iv}{fs:List (List Value)}{f:List Value}{y:Iv}(h:Rws lo g w L vs) (hv:vs[k]? = some v) (hx:L[k]? = some x) (ha:zmc 43 7 RI lo lo w v fs x)
  (h2:w'.ownsRow lo 43 7 v' (fs.length+1) (fs.flatten++f)) (h3:w.grownBy w' v.ownBlock) (h5:v'.ownBlock=v.ownBlock\/v'.ownBlock=some w.heap.size) (hn:f.length=7)
  (hR:On lo (fun b=>b<lo) w (fun W=>RI W f y)):Rws lo g (w'.setCell ⟨g,k,none⟩ v') (L.set k (x++[y])) (vs.set k v'):=by
 have hgl:=h.blk.lt;have hlo:=h.le;have hs:lo<=w.heap.size:=by omega
 have hk:k<vs.length:=(Yb.1 hv).1;have hkL:k<L.length:=by rw [<- h.len];exact hk
 have hvg:=h.nb k v hv;have hv'g:v'.ownBlock≠some g:=zmu h5 hvg hgl;have zK1:∀b,b≠g->(w'.setCell ⟨g,k,none⟩ v').heap[b]? = w'.heap[b]?:=fun b hb=>Yl _ _ _ _ hb
 have keep:∀ (u:Value) (gs:List (List Value)) (z:List Iv),zmc 43 7 RI lo lo w' u gs z->u.ownBlock≠some g->zmc 43 7 RI lo lo (w'.setCell ⟨g,k,none⟩ v') u gs z:=fun u gs z hz hu=>
  hz.keep (fun b hb=>zK1 b (by omega)) (fun o _ _ ho=>zK1 o (fun e=>hu (by rw [ho,e])))
 refine ⟨?_,?_,hlo,fun i u z hu hz=>?_,fun i u hu=>?_,fun i j u t hij hu ht=>?_⟩
 ·have hb0:Blk w' g 24 vs.toArray:=(h3.block g hgl (fun e=>hvg e.symm)).trans h.blk
  have hb:=hb0.set_ k v';rw [List.setIfInBounds_toArray] at hb;exact hb
 ·rw [List.length_set,List.length_set];exact h.len
 ·by_cases e:k=i
  ·subst e
   rw [List.getElem?_set_self hk] at hu;rw [List.getElem?_set_self hkL] at hz;injection hu with hu
   injection hz with hz
   subst hu hz;exact ⟨_,keep _ _ _ (ha.next hs h2 h3 hn hR) hv'g⟩
  ·rw [List.getElem?_set_ne e] at hu hz
   obtain ⟨gs,hg⟩:=h.row i u z hu hz;exact ⟨gs,keep _ _ _ (hg.other hs h3 (fun b hb=>(ha.lt b hb).1) (h.dj k i v u e hv hu)) (h.nb i u hu)⟩
 ·by_cases e:k=i
  ·subst e
   rw [List.getElem?_set_self hk] at hu;injection hu with hu
   subst hu;exact hv'g
  ·rw [List.getElem?_set_ne e] at hu
   exact h.nb i u hu
 ·have old:∀ (q:Nat) (r:Value),k≠q->vs[q]? = some r->Dj v' r:=fun q r hq hr=>zmX (h.dj k q v r hq hv hr) h5 (fun b hb=>by
   obtain ⟨z,hz⟩:∃z,L[q]? = some z:=⟨L[q]'(by rw [<- h.len];exact (Yb.1 hr).1),Yo _⟩;obtain ⟨gs,hg⟩:=h.row q r z hr hz;exact (hg.lt b hb).2)
  by_cases e:k=i
  ·subst e
   rw [List.getElem?_set_self hk] at hu;rw [List.getElem?_set_ne hij] at ht;injection hu with hu
   subst hu;exact old j t hij ht
  ·rw [List.getElem?_set_ne e] at hu
   by_cases e2:k=j
   ·subst e2
    rw [List.getElem?_set_self hk] at ht;injection ht with ht
    subst ht;exact (old i u e hu).symm
   ·rw [List.getElem?_set_ne e2] at ht
    exact h.dj i j u t hij hu ht
theorem Rws.sl {lo g n:Nat}{w:World}{L:List (List Iv)}{vs:List Value}(h:Rws lo g w L vs) (hl:L.length=n) (hn:n<=1000):Sl 1 RB1 w (some ⟨g,0,none⟩) n n L:=by
 refine ⟨hl,Ya _,by omega,fun _=>⟨g,0,rfl,h.blk.lt,fun j x hj=>?_⟩⟩;have hjl:j<vs.length:=by rw [h.len];exact (Yb.1 hj).1
 have hv:vs[j]? = some vs[j]:=Yo hjl;obtain ⟨fs,ha⟩:=h.row j _ x hv hj;obtain ⟨A,c,e,hs⟩:=ha.sl (Yq h.le (Nat.le_of_lt h.blk.lt));refine ⟨[vs[j]],rfl,⟨A,_,c,by rw [e],hs⟩,fun i u hu=>?_⟩
 match i,hu with
 | 0,hu=>
  simp at hu;rw [Nat.zero_add,Nat.mul_one,Nat.add_zero,h.blk.cell];rw [List.getElem?_toArray,hv,hu]
 | i+1,hu=>simp at hu
def Lx (m:List (List Dy)) (mn k:Nat) (x:List Iv):List (List Iv):=(m.take k).map ptR++x::List.replicate (mn - (k+1)) []
theorem zp1 {m:List (List Dy)}{mn k:Nat}{x:List Iv}(hl:m.length=mn) (hk:k<mn):(Lx m mn k x)[k]? = some x:=by
 unfold Lx;rw [Yx (by rw [Xf,Yr];omega),Xf,Yr,Nat.min_eq_left (by omega),Nat.sub_self];rfl
theorem zp2 {m:List (List Dy)}{mn k:Nat}{x y:List Iv}(hl:m.length=mn) (hk:k<mn):(Lx m mn k x).set k y=Lx m mn k y:=by
 unfold Lx;rw [List.set_append_right _ _ (by rw [Xf,Yr];omega),Xf,Yr,Nat.min_eq_left (by omega),Nat.sub_self];rfl
theorem zqQ {m:List (List Dy)}{mn k:Nat}(hk:k<mn):(m.take k).map ptR++List.replicate (mn - k) []=Lx m mn k []:=by
 unfold Lx;rw [show mn - k=(mn - (k+1))+1 by omega,List.replicate_succ]
theorem zqR {m:List (List Dy)}{mn k:Nat}{r:List Dy}(hr:m[k]? = some r):Lx m mn k (ptR r)=(m.take (k+1)).map ptR++List.replicate (mn - (k+1)) []:=by
 unfold Lx;rw [List.take_add_one,hr];simp
theorem zpO (x:Dy) (i j:Int) (A:Option Addr) (n c:Nat) (w:World) (h:SL w A n c x.l) (hx:Bd x) (hv:vld x=true):Calls Tryz.prog 162 #[.int .i64 i,.int .i64 j,.agg #[.bool x.neg,.slice A n c,.int .i64 x.e]] w fun e w'=>e=.returned (.agg #[.bool x.neg,.slice A n c,.int .i64 x.e,.bool x.neg,.slice A n c,.int .i64 x.e,.bool false])/\Below w.heap.size w w':=by
 obtain ⟨W0,eW,hb0,ka,kr⟩:=al2 w #[.bool x.neg,.slice A n c,.int .i64 x.e] 41 #[.bool false,.slice none 0 0,.int .i64 0,.bool false,.slice none 0 0,.int .i64 0,.bool false] 43;have HC:=Zh (znh x A n c _ (h.below hb0) hx hv);obtain ⟨p0,p1,p2⟩:=ka.cells3;clear h hx hv;go_enter Tryz.func162,Tryz.ntmps162
 go_wp2_with fail
 clear eW;have HB0:=Zh hb0;have HKR:=Zh kr;clear ka kr hb0 p0 p1 p2;refine HC.out.mono ?_;rintro e w1 ⟨rfl,hb1⟩
 have HB1:=Zh hb1;clear hb1 HC;have kr:=HKR.out.next HB1.out;obtain ⟨r0,r1,r2,r3,r4,r5,r6⟩:=kr.cells7;have f0:=kr.frozen 0;have f1:=kr.frozen 1;have f2:=kr.frozen 2;have f3:=kr.frozen 3;have f4:=kr.frozen 4;have f5:=kr.frozen 5;have f6:=kr.frozen 6;have HKR2:=Zh kr;clear kr;go_wp2_with fail
 exact Yn (zqA Tryz.results162 rfl (HKR2.out.set7 _ _ _ _ _ _ _)) rfl ⟨rfl,zC0 (zAA HB0.out HB1.out) (by omega) _ _ _ _ _ _ _⟩
theorem zo4 (M:Option Addr) (mn mc:Nat) (m:List (List Dy)) (w:World) (hm:Sl 1 RM w M mn mc m) (h1:1<=mn) (h8:mn<=8) (ho:∀r∈m,r.length<=8/\∀d∈r,vld d=true/\Bd d) :
  Calls Tryz.prog 161 #[.slice M mn mc,.func (.func 162) #[] #[]] w fun e w'=>∃A,e=.returned (.slice A mn mn)/\Sl 1 RB1 w' A mn mn (m.map ptR)/\Below w.heap.size w w':=by
 have m1:=hm.cap;have m2:=hm.max;have HML:=Zh hm.len;obtain ⟨b,off,r0,us0,rfl,hbl,-,-,-,-⟩:=hm.get h1;have HH:=Zh hm;have HO:=Zh ho;have eg:∀args W,(callFunc 162 args).run Tryz.prog W=.ok (.enter 162 args) W:=zCQ Tryz.func162 (by kernel_rfl) rfl;clear hm ho;go_enter Tryz.func161,Tryz.ntmps161
 go_wp2_with (at_make;refine zoj rfl (.tmp 11) (.tmp 11) _ 24 rfl zmo Tryz.underlying34 .i64 .i64 _ _ mn rfl rfl rfl rfl (by omega) ?_;intro w1 hr1 hb1 hs1)
 have HR1:=Zh (Rws.new hr1 (Ya _));have HB1:=Zh hb1;have hz1:=Ys hs1.symm;clear hr1 hb1 hs1;go_wp2_with fail
 go_loopw [15] (fun i wr=>∃ (k:Nat) (vs:List Value),k<=mn/\i=.int .i64 k/\Hid (Rws w.heap.size w.heap.size wr ((m.take k).map ptR++List.replicate (mn - k) []) vs)/\Hid (Below w.heap.size w wr)) (fun i _=>mn - (intOf i).toNat)
 case atStart=>exact ⟨0,_,by omega,rfl,HR1,HB1⟩
 case round=>
  clear HR1 HB1;obtain ⟨k,vs,hk,rfl,HR,HB⟩:=hrel;by_cases hlt:k<mn
  ·obtain ⟨r,us,-,hr1,hk1,hRr,hc⟩:=HH.out.get' hlt
   obtain ⟨A1,n1,c1,rfl,hs1⟩:=hRr;have t1:=hc 0 _ rfl;rw [Nat.mul_one,Nat.add_zero] at t1;have q0:=(HB.out.cell (p:=⟨b,off+k,none⟩) hbl).trans t1;have c1c:=hs1.cap;have c1m:=hs1.max;have HS1:=Zh hs1;have HO1:=Zh (HO.out r (Yk hr1));have hn8:n1<=8:=by rw [<- hs1.len];exact HO1.out.1
   have HR0:=Zh HR.out;rw [zqQ hlt] at HR0;have HX1:=Zh (zqR (m:=m) (mn:=mn) hr1);have HLS:=Zh (fun (x y:List Iv)=>zp2 (m:=m) (mn:=mn) (k:=k) (x:=x) (y:=y) HML.out hlt);have HLG:=Zh (fun (x:List Iv)=>zp1 (m:=m) (mn:=mn) (k:=k) (x:=x) HML.out hlt);have HRL:=Zh hs1.len;clear hc hk1 hr1 t1 hs1 HR;go_wp2_with fail
   clear q0
   rename World=>wo
   go_loopw [22] (fun i wr=>∃ (j:Nat) (vs:List Value),j<=n1/\i=.int .i64 j/\Hid (Rws w.heap.size w.heap.size wr (Lx m mn k (ptR (r.take j))) vs)/\Hid (Below w.heap.size w wr)) (fun i _=>n1 - (intOf i).toNat)
   case atStart=>exact ⟨0,_,by omega,rfl,HR0,HB⟩
   case round=>
    clear HR0 HB vs;obtain ⟨j,vs,hj,rfl,HR,HB⟩:=hrel;by_cases hlt2:j<n1
    ·obtain ⟨b2,off2,d,us,rfl,hbl2,hd1,hu3,hRd,hc⟩:=HS1.out.get hlt2
     have hRd0:=hRd;obtain ⟨A2,n2,c2,rfl,hs2⟩:=hRd;have hdm:=Yk hd1;have hvk:∃v,vs[k]? = some v:=by
      have hl:k<vs.length:=by rw [HR.out.len];exact (Yb.1 (HLG.out (ptR (r.take j)))).1
      exact ⟨vs[k],Yo hl⟩
     obtain ⟨v,hvk⟩:=hvk;obtain ⟨fs,hfs⟩:=HR.out.row k v _ hvk (HLG.out _);obtain ⟨vA,vn,vlc,rfl⟩:=zED hfs.own;have hfl:fs.length<=1000:=by have:=hfs.len;unfold ptR at this;rw [Xf,Yr] at this;omega
     have HV:=Zh hvk;have HFS:=Zh hfs;have HFO:Hid (∀o,(Value.slice vA vn vlc).ownBlock=some o->o<wr.heap.size):=fun o ho=>(hfs.lt o ho).2
     have q0:=(HB.out.cell (p:=⟨b2,off2+j*3,none⟩) hbl2).trans (hc 0 _ rfl);have q1:=(HB.out.cell (p:=⟨b2,off2+j*3+1,none⟩) hbl2).trans (hc 1 _ rfl);have q2:=(HB.out.cell (p:=⟨b2,off2+j*3+2,none⟩) hbl2).trans (hc 2 _ rfl);have HC:=Zh (fun W (hb:Below w.heap.size w W)=>zpO d k j A2 n2 c2 W (hs2.below hb) (HO1.out.2 d hdm).2 (HO1.out.2 d hdm).1);have HT:Hid (ptR (r.take (j+1))=ptR (r.take j)++[⟨d,d,false⟩]):=by unfold Hid ptR;rw [List.take_add_one,hd1];simp
     have HON:Hid (On w.heap.size (fun b=>b<w.heap.size) w (fun W=>RI W [.bool d.neg,.slice A2 n2 c2,.int .i64 d.e,.bool d.neg,.slice A2 n2 c2,.int .i64 d.e,.bool false] ⟨d,d,false⟩)):=(zeL zAQ zSP hRd0).imp (fun W h=>by
      obtain ⟨A',n',c',e,h2⟩:=h;simp at e;obtain ⟨rfl,rfl,rfl⟩:=e;exact ⟨_,_,_,_,_,_,rfl,h2,h2⟩)
     have hbA:=zAE wr (.cells #[.bool d.neg,.slice A2 n2 c2,.int .i64 d.e] 41);have kx:=Blk.new wr 41 #[.bool d.neg,.slice A2 n2 c2,.int .i64 d.e];have hzg:=HR.out.blk.lt;clear hc hu3 hd1 hs2 hRd0 hdm hvk hfs;go_wp2_with fail
     clear q0 q1 q2;have HR1:=Zh (HR.out.below hbA);have HF1:=Zh (HFS.out.below (by omega) hbA);have HB1:=Zh (HB.out.trans (hbA.mono HB.out.size));have hz1:wr.heap.size+1<=(wr.alloc (.cells #[.bool d.neg,.slice A2 n2 c2,.int .i64 d.e] 41)).heap.size:=by simp
     generalize (wr.alloc (.cells #[.bool d.neg,.slice A2 n2 c2,.int .i64 d.e] 41))=W0 at *;have HKX:=Zh kx;have hzs:=HB.out.size;clear kx hbA HB HR HFS;have hB:=zBw W0;have HR2:=Zh (HR1.out.below hB);have HF2:=Zh (HF1.out.below (by omega) hB);have HB2:=Zh (HB1.out.trans (hB.mono HB1.out.size));have hH:(fun W=>W.cell? ⟨w.heap.size,k,none⟩=some (.slice vA vn vlc)/\Blk W wr.heap.size 41 #[.bool d.neg,.slice A2 n2 c2,.int .i64 d.e]) W0.drew:=⟨by rw [HR2.out.blk.cell,List.getElem?_toArray];exact HV.out,HKX.out.next hB⟩;have hz2:W0.heap.size<=W0.drew.heap.size:=hB.size;have HCE:=Zh (fun (W:World) (h:(fun W=>W.cell? ⟨w.heap.size,k,none⟩=some (.slice vA vn vlc)/\Blk W wr.heap.size 41 #[.bool d.neg,.slice A2 n2 c2,.int .i64 d.e]) W)=>And.intro h.1 h.2.cells3);refine zmj (fun j=>(14::[]).contains j) (fun W=>W.cell? ⟨w.heap.size,k,none⟩=some (.slice vA vn vlc)/\Blk W wr.heap.size 41 #[.bool d.neg,.slice A2 n2 c2,.int .i64 d.e]) (by kernel_rfl) ?_;clear hB HKX;generalize W0.drew=Wd at *;refine tkn 0 [] HCE.out hH ?_;refine tkn 1 [] HCE.out hH ?_;refine tkn 2 [] HCE.out hH ?_;refine tkn 3 [] HCE.out hH ?_;refine tkn 4 [] HCE.out hH ?_;refine tkn 5 [] HCE.out hH ?_;refine tkn 6 [] HCE.out hH ?_;refine tkn 7 [] HCE.out hH ?_;refine tkn 8 [] HCE.out hH ?_;refine tkn 9 [] HCE.out hH ?_;simp only [Act.put,sT,sZ,sS];refine rdn 10 (fun K hK=>?_)
     go_simp
     refine (HC.out Wd HB2.out).mono ?_;rintro e Wc ⟨rfl,hc⟩
     have hH2:(fun W=>W.cell? ⟨w.heap.size,k,none⟩=some (.slice vA vn vlc)/\Blk W wr.heap.size 41 #[.bool d.neg,.slice A2 n2 c2,.int .i64 d.e]) Wc:=⟨(hc.cell (p:=⟨w.heap.size,k,none⟩) HR2.out.blk.lt).trans hH.1,hH.2.next hc⟩;have HR3:=Zh (HR2.out.below hc);have HF3:=Zh (HF2.out.below (by omega) hc);have HB3:=Zh (HB2.out.trans (hc.mono HB2.out.size));have hz3:=hc.size;clear hc HR2 HF2 HB2 hH;go_wp2_with fail
     refine hK.out _ _ (fun _=>hH2) ?_;clear hK K;refine rdn 11 (fun K hK=>?_)
     go_simp
     have hc:=zAE Wc (.cells #[.bool d.neg,.slice A2 n2 c2,.int .i64 d.e,.bool d.neg,.slice A2 n2 c2,.int .i64 d.e,.bool false] 43);have HNB:Hid (Blk (Wc.alloc (.cells #[.bool d.neg,.slice A2 n2 c2,.int .i64 d.e,.bool d.neg,.slice A2 n2 c2,.int .i64 d.e,.bool false] 43)) Wc.heap.size 43 #[.bool d.neg,.slice A2 n2 c2,.int .i64 d.e,.bool d.neg,.slice A2 n2 c2,.int .i64 d.e,.bool false]):=Blk.new _ _ _;have hz4:=hc.size;have hH3:(fun W=>W.cell? ⟨w.heap.size,k,none⟩=some (.slice vA vn vlc)/\Blk W wr.heap.size 41 #[.bool d.neg,.slice A2 n2 c2,.int .i64 d.e]) (Wc.alloc (.cells #[.bool d.neg,.slice A2 n2 c2,.int .i64 d.e,.bool d.neg,.slice A2 n2 c2,.int .i64 d.e,.bool false] 43)):=⟨(hc.cell (p:=⟨w.heap.size,k,none⟩) HR3.out.blk.lt).trans hH2.1,hH2.2.next hc⟩;have HR4:=Zh (HR3.out.below hc);have HF4:=Zh (HF3.out.below (by omega) hc);have HB4:=Zh (HB3.out.trans (hc.mono HB3.out.size));clear hc HR3 HF3 HB3 hH2;refine hK.out _ _ (fun _=>hH3) ?_;clear hK K;generalize (Wc.alloc (.cells #[.bool d.neg,.slice A2 n2 c2,.int .i64 d.e,.bool d.neg,.slice A2 n2 c2,.int .i64 d.e,.bool false] 43))=Wz at *;refine rdn 12 (fun K hK=>?_);refine zmW rfl _ _ 24 rfl 43 7 88 _ zQG rfl (by omega) (by omega) Tryz.underlying24 w.heap.size (.slice vA vn vlc) fs rfl HF4.out.own ⟨Wc.heap.size,0,none⟩ 1 [.bool d.neg,.slice A2 n2 c2,.int .i64 d.e,.bool d.neg,.slice A2 n2 c2,.int .i64 d.e,.bool false] rfl rfl ?c1 ?c2 ?c3 ?c4 ?_
     case c1=>
      intro j u hj;rw [zEM,Blk.cell HNB.out]
      simpa using hj
     case c2=>intro u hu;simp at hu;rcases hu with rfl | rfl | rfl | rfl | rfl | rfl | rfl <;> rfl
     case c3=>omega
     case c4=>omega
     intro v' w3 q2 q3 q5;obtain ⟨vB,vm,vmc,rfl⟩:=zED (HF4.out.next HB4.out.size q2 q3 rfl (HON.out.move (fun b hb=>HB4.out.block b hb))).own;have hng:=HR4.out.nb k _ HV.out;have hov:∀b,b<Wz.heap.size->(Value.slice vA vn vlc).ownBlock≠some b->w3.heap[b]? = Wz.heap[b]?:=fun b hb hb2=>q3.block b hb (fun e=>hb2 e.symm)
     have HPT:=Zh (HR4.out.put HV.out (HLG.out (ptR (r.take j))) HF4.out q2 q3 q5 rfl (HON.out.move (fun b hb=>HB4.out.block b hb)));have HB5:=Zh (HB4.out.trans ((Yp w.heap.size Wz).grown q3 (by omega) (fun k hk=>(HF4.out.lt k hk).1)));have hG3:Blk w3 w.heap.size 24 vs.toArray:=(hov _ HR4.out.blk.lt hng).trans HR4.out.blk;have hvl:k<vs.length:=(Yb.1 HV.out).1;have hH4:(fun W=>W.cell? ⟨w.heap.size,k,none⟩=some (.slice vA vn vlc)/\Blk W wr.heap.size 41 #[.bool d.neg,.slice A2 n2 c2,.int .i64 d.e]) w3:=⟨by rw [hG3.cell,List.getElem?_toArray];exact HV.out,(hov _ (by have:=hH3.2.lt;omega) (fun e=>by have:=HFO.out _ e;omega)).trans hH3.2⟩;refine hK.out _ _ (fun _=>hH4) ?_;clear hK K hov hH3;simp only [Act.put,sT,sZ,sS];have hH:=hH4;refine tkn 13 [] HCE.out hH ?_;simp only [Act.put,sT,sZ,sS];refine rdn 14 (fun K hK=>?_);have hf0:=hG3.frozen k;have hg0:=hH4.1
     go_simp
     refine hK.out _ _ (fun h=>absurd h (by decide)) ?_;clear hK K;have HB6:=Zh (HB5.out.setCell (p:=⟨w.heap.size,k,none⟩) (Ya _) (.slice vB vm vmc));refine zmi (by kernel_rfl) ?_ _;go_wp2_with fail
     go_roundw
     case rel=>exact ⟨j+1,_,by omega,by go_num,by unfold Hid;rw [HT.out,<- HLS.out];exact HPT.out,HB6⟩
     case measure=>simp [intOf];omega
    ·obtain rfl:n1=j:=by omega
     have hmt:r.take n1=r:=Xe (by rw [HRL.out];exact Ya _);rw [hmt,HX1.out] at HR;go_wp2_with fail
     go_roundw
     case rel=>exact ⟨k+1,_,by omega,by go_num,HR,HB⟩
     case measure=>simp [intOf];omega
  ·obtain rfl:mn=k:=by omega
   have hmt:m.take mn=m:=Xe (by rw [HML.out];exact Ya _);rw [hmt,Nat.sub_self,List.replicate_zero,List.append_nil] at HR;have HSL:=Zh (HR.out.sl (n:=mn) (by rw [Xf,HML.out]) (by omega));clear HR;go_wp2_with fail
   go_ret;exact ⟨_,rfl,HSL.out,HB.out⟩
theorem zpk (q:Nat) (M:Option Addr) (mn mc:Nat) (m:List (List Dy)) (w:World) (hm:Sl 1 RM w M mn mc m) (h1:1<=mn) (h8:mn<=8) (hq1:1<=q) (hq8:q<=8) (hq:∀r∈m,r.length=q) (ho:∀r∈m,∀d∈r,vld d=true/\Bd d) :
  Calls Tryz.prog 79 #[.slice M mn mc] w fun e w'=>∃A,e=.returned (.slice A mn mn)/\Sl 1 RB1 w' A mn mn (m.map ptR)/\Below w.heap.size w w':=by
 have H1:=Zh (zp8 q M mn mc m w hm h1 h8 hq1 hq8 hq ho);have H2:=Zh (fun W (hb:Below w.heap.size w W)=>zo4 M mn mc m W (hm.next zAh hb) h1 h8 (fun r hr=>⟨by rw [hq r hr];exact hq8,ho r hr⟩));clear hm hq ho;go_enter Tryz.func79,Tryz.ntmps79
 go_wp2_with fail
 refine H1.out.mono ?_;rintro e w1 ⟨rfl,hb1⟩
 go_wp2_with fail
 refine (H2.out w1 hb1).mono ?_;rintro e w2 ⟨A,rfl,hs2,hb2⟩
 have HS2:=Zh hs2;have HB2:=Zh (zAA hb1 hb2);clear hs2 hb1 hb2;go_wp2_with fail
 go_ret;exact ⟨A,rfl,HS2.out,HB2.out⟩
def fbV (f:Fr) (p:Int):List Iv:=List.zipWith (fun x y=>znT x y p) (ptR f.c) ((f.a.map ptR).map fun r=>zn9 r f.r p)
theorem zoy {f:Fr}(h:frV f=true):(1<=f.c.length/\f.c.length<=8/\f.a.length=f.c.length/\f.r.length=f.c.length)/\(∀d∈f.c,vld d=true)/\(∀l∈f.a,l.length=f.c.length/\∀d∈l,vld d=true)/\∀x∈f.r,ivV x=true:=by
 unfold frV at h;rw [Yi,Yi,Yi,Yi,Yi,Yi] at h;obtain ⟨⟨⟨⟨⟨⟨h1,h2⟩,h3⟩,h4⟩,h5⟩,h6⟩,h7⟩:=h;refine ⟨⟨of_decide_eq_true h1,of_decide_eq_true h2,of_decide_eq_true h3,of_decide_eq_true h4⟩,fun d hd=>?_,fun l hl=>?_,fun x hx=>?_⟩
 ·simp only [Bool.not_eq_true',List.any_eq_false] at h5
  simpa using h5 d hd
 ·simp only [Bool.not_eq_true',List.any_eq_false] at h6
  have h:=h6 l hl;simp only [Bool.or_eq_true,not_or,Bool.not_eq_true,decide_eq_false_iff_not,Decidable.not_not,List.any_eq_false] at h;exact ⟨h.1,fun d hd=>by simpa using h.2 d hd⟩
 ·simp only [Bool.not_eq_true',List.any_eq_false] at h7
  have h:=h7 x hx;simp only [Bool.or_eq_true,not_or,Bool.not_eq_true,Bool.not_eq_false'] at h;have h2:=h.2;unfold zCM at h2;simp only [Yi] at h2;exact h2.1.1
theorem zp6 {l:List Dy}(h:∀d∈l,vld d=true/\Bd d):∀x∈ptR l,ivV x=true/\BdI x:=by
 intro x hx;unfold ptR at hx;obtain ⟨d,hd,rfl⟩:=List.mem_map.1 hx;have h1:=zqM d;unfold ptI at h1;rw [if_pos (h d hd).1] at h1;exact ⟨h1,(h d hd).2,(h d hd).2⟩
theorem zpb {p:Int}:∀ (l m:List Iv),∀x∈List.zipWith (fun x y=>znT x y p) l m,BdI x
 | [],_,x,hx=>by simp at hx
 | _::_,[],x,hx=>by simp at hx
 | a::l,b::m,x,hx=>by
  rw [List.zipWith_cons_cons,List.mem_cons] at hx;rcases hx with rfl | hx
  ·exact zoo _ _ _
  ·exact zpb l m x hx
theorem znr (f:Fr) (p:Int):∀x∈fbV f p,BdI x:=zpb _ _
theorem zpM (vs:List Value) (f:Fr) (p:Int) (w:World) (h:RF w vs f) (hf:BdF f) (hv:frV f=true) (hp:znB p=true) (ht:zBx w) :
  Calls Tryz.prog 29 #[.agg vs.toArray,.int .i64 p] w fun e w'=>∃A c,e=.returned (.slice A f.c.length c)/\Ly w.heap.size w' (fun W=>Sl 7 RI W A f.c.length c (fbV f p))/\Below w.heap.size w w':=by
 obtain ⟨⟨g1,g8,g3,g4⟩,g5,g6,g7⟩:=zoy hv;have hp12:8<=p/\p<=512:=by
  unfold znB at hp
  simpa using hp
 obtain ⟨A,n,c,B,m,d,C,q,r,rfl,h1,h2,h3⟩:=h;obtain rfl:n=m:=by rw [<- h2.len,<- h1.len,g3]
 obtain rfl:n=q:=by rw [<- h3.len,<- h1.len,g4]
 have HLN:=Zh h1.len;rw [h1.len] at g1 g8 g3 g4 g6 ⊢;have hb0:=zAE w (.cells #[.slice A n c,.slice B n d,.slice C n r] 26);have kx:=Blk.new w 26 #[.slice A n c,.slice B n d,.slice C n r];have HV:=Zh (zEQ [.slice A n c,.slice B n d,.slice C n r] f _ (zBs _ _ _ _ ⟨A,n,c,B,n,d,C,n,r,rfl,h1,h2,h3⟩ hb0) hf);rw [hv] at HV;have HPR:=Zh (fun W=>znv p W);rw [hp] at HPR;have HOF:=Zh (fun W (hb:Below w.heap.size w W)=>zpk n B n d f.a W (h2.next zAh hb) g1 g8 g1 g8 (fun l hl=>(g6 l hl).1) (fun l hl d hd=>⟨(g6 l hl).2 d hd,hf.a l hl d hd⟩));have HAP:=Zh (fun W (hb:Below w.heap.size w W) (A5:Option Addr) (hs:Sl 1 RB1 W A5 n n (f.a.map ptR))=>zod p A5 n n (f.a.map ptR) C n r f.r W hs (h3.next zAX hb) g1 g8 g1 g8 (fun l hl=>by
  obtain ⟨l',hl',rfl⟩:=List.mem_map.1 hl;unfold ptR;rw [Xf];exact (g6 l' hl').1) (fun l hl=>by
  obtain ⟨l',hl',rfl⟩:=List.mem_map.1 hl;exact zp6 (fun d hd=>⟨(g6 l' hl').2 d hd,hf.a l' hl' d hd⟩)) (fun x hx=>⟨g7 x hx,hf.r x hx⟩) hp12.1 hp12.2 (ht.next hb))
 have HPT:=Zh (fun W (hb:Below w.heap.size w W)=>zoh A n c f.c W (h1.next zAQ hb) g1 g8 (fun d hd=>⟨g5 d hd,hf.c d hd⟩));have HPL:=Zh (fun W (hb:Below w.heap.size w W) (A6:Option Addr) (c6:Nat) (A7:Option Addr) (c7:Nat) (hs6:Sl 7 RI W A6 n c6 (ptR f.c)) (hs7:Sl 7 RI W A7 n c7 ((f.a.map ptR).map fun r=>zn9 r f.r p))=>zox p A6 A7 n c6 n c7 _ _ W hs6 hs7 g1 (by omega) (Ya _) (fun x hx=>(zp6 (fun d hd=>⟨g5 d hd,hf.c d hd⟩) x hx).2) (fun x hx=>by
  obtain ⟨l',hl',rfl⟩:=List.mem_map.1 hx;exact zop _ _ _ _) (ht.next hb))
 have c1:=h1.cap;have c2:=h1.max;have c3:=h2.cap;have c4:=h2.max;have c5:=h3.cap;have c6:=h3.max;have hfb:fbV f p=List.zipWith (fun x y=>znT x y p) (ptR f.c) ((f.a.map ptR).map fun r=>zn9 r f.r p):=rfl;have HFB:=Zh hfb;generalize fbV f p=FB at *;obtain ⟨p0,p1,p2⟩:=kx.cells3;have HKX:=Zh kx;clear h1 h2 h3 hf hv hp ht kx g3 g4 g5 g6 g7 hp12 hfb;go_enter Tryz.func29,Tryz.ntmps29
 go_wp2_with fail
 clear p0 p1 p2;generalize w.alloc (.cells #[.slice A n c,.slice B n d,.slice C n r] 26)=W0 at *;have HB0:=Zh hb0;clear hb0;have HK:Hid (∀V,Below W0.heap.size W0 V->(fun W=>W.cell? ⟨w.heap.size,0,none⟩=some (.slice A n c)/\W.cell? ⟨w.heap.size,1,none⟩=some (.slice B n d)/\W.cell? ⟨w.heap.size,2,none⟩=some (.slice C n r)) V):=fun V hV=>(HKX.out.next hV).cells3
 refine HV.out.mono ?_;rintro e w1 ⟨rfl,hB⟩
 clear HV;go_wp2_with fail
 refine (HPR.out w1).mono ?_;rintro e w9 ⟨rfl,rfl⟩
 go_wp2_with fail
 replace hB:=zAA hB (zBw w9);have HKp:=Zh (HK.out _ hB);refine wp_region_held_drew (S:=(fun W=>W.cell? ⟨w.heap.size,0,none⟩=some (.slice A n c)/\W.cell? ⟨w.heap.size,1,none⟩=some (.slice B n d)/\W.cell? ⟨w.heap.size,2,none⟩=some (.slice C n r))) (by kernel_rfl) (HKp.out) (fun hH=>?_);generalize w9.drew=Wd at *;refine tkh 0 hH ?_;refine tkh 1 hH ?_;refine tkh 3 hH ?_;refine tkh 4 hH ?_;refine tkh 5 hH ?_;simp only [Act.put,sT,sZ,sS];refine rdh 2 (fun K hK=>?_)
 go_simp
 refine (HOF.out _ (zAA HB0.out hB)).mono ?_;rintro e3 V1 ⟨A5,rfl,hs5,hc⟩
 replace hB:=zAA hB hc;replace HKp:=Zh (HK.out _ hB);have HS5:=Zh hs5;clear hc hs5;go_wp2_with fail
 refine hK.out _ _ (HKp.out) (fun hH=>?_);clear hK K;refine rdh 6 (fun K hK=>?_)
 go_simp
 refine (HAP.out _ (zAA HB0.out hB) A5 HS5.out).mono ?_;rintro e4 V2 ⟨A7,c7,rfl,hly,hc⟩
 replace hB:=zAA hB hc;replace HKp:=Zh (HK.out _ hB);have HS7:=Zh (hly.here);clear hc hly HS5;go_wp2_with fail
 refine hK.out _ _ (HKp.out) (fun hH=>?_);clear hK K;refine tkh 7 hH ?_;refine tkh 8 hH ?_;refine tkh 9 hH ?_;refine tkh 10 hH ?_;refine tkh 11 hH ?_;simp only [Act.put,sT,sZ,sS];refine wpAnyH_done (by kernel_rfl) ?_ _;obtain ⟨p0,p1,p2⟩:=HKp.out;go_wp2_with fail
 clear p0 p1 p2;refine (HPT.out _ (zAA HB0.out hB)).mono ?_;rintro e5 w5 ⟨A6,c6,rfl,hs6,hb5⟩
 have HS6:=Zh hs6;replace HS7:=Zh (HS7.out.next zAX hb5);replace hB:=zAA hB hb5;clear hb5 hs6;go_wp2_with fail
 refine (HPL.out _ (zAA HB0.out hB) A6 c6 A7 c7 HS6.out HS7.out).mono ?_;rintro e6 w6 ⟨A8,c8,rfl,hly8,hb8⟩
 have hz8:=(zAA HB0.out hB).size;have HL8:=Zh hly8;have HB8:=Zh (zAA (zAA HB0.out hB) hb8);have hz9:=hb8.size;clear hly8 hb8;go_wp2_with fail
 go_ret;exact ⟨A8,c8,rfl,by rw [HFB.out];exact HL8.out.up (Ya _) hz8 (fun _ _ _=>rfl),HB8.out⟩
structure TkV (t:Tk) (n N:Nat):Prop where
 lf:t.frames.length=n+1
 lv:t.v.length=n
 lt:t.tubes.length=n
 ls:t.steps.length=n
 most:n<=1000
 small:N<=4
 f:∀f∈t.frames,frV f=true/\f.c.length=N/\BdF f
 s:∀h∈t.steps,vld h=true/\0<zBP h/\Bd h
 t:∀b∈t.tubes,zEO b=true/\b.length=N/\∀x∈b,BdI x
theorem zoY {x:Ct}(h:ctV x=true) (hx:BdC x):TkV (trP x) x.links.length x.start.c.length:=by
 obtain ⟨h8,-,h10,-,-,-,-,-,h7,h5⟩:=zBM h;have hl:∀y∈x.links,vld y.h=true/\0<zBP y.h/\zEO y.tube=true/\y.tube.length=x.start.c.length/\frV y.e=true/\y.e.c.length=x.start.c.length:=fun y hy=>by
  have h:=h10 y hy;unfold lkV at h;simp only [Yi,Xb] at h;exact ⟨h.1.1.1.1.1.1,h.1.1.1.1.1.2,h.1.1.1.1.2,h.1.1.1.2,h.1.1.2,h.1.2⟩
 refine ⟨by simp [trP],by simp [trP],by simp [trP],by simp [trP],h5,h7,fun f hf=>?_,fun d hd=>?_,fun b hb=>?_⟩
 ·rcases List.mem_cons.1 (show f∈x.start::x.links.map Lk.e from hf) with rfl | hf
  ·exact ⟨h8,rfl,hx.s⟩
  ·obtain ⟨y,hy,rfl⟩:=List.mem_map.1 hf
   exact ⟨(hl y hy).2.2.2.2.1,(hl y hy).2.2.2.2.2,(hx.l y hy).e⟩
 ·obtain ⟨y,hy,rfl⟩:=List.mem_map.1 (show d∈x.links.map Lk.h from hd)
  exact ⟨(hl y hy).1,(hl y hy).2.1,(hx.l y hy).h⟩
 ·obtain ⟨y,hy,rfl⟩:=List.mem_map.1 (show b∈x.links.map Lk.tube from hb)
  exact ⟨(hl y hy).2.2.1,(hl y hy).2.2.2.1,(hx.l y hy).t⟩
theorem zqH {α:Type}(l:List α):l.any (fun _=>false)=false:=by
 rw [List.any_eq_false];intro x _ h;cases h
theorem zo8 (us:List Value) (f:Fr) (N gN:Nat) (w:World) (h:RF w us f) (hf:BdF f) (hv:frV f=true) (hl:f.c.length=N) (kN:Blk w gN 3 #[.int .i64 N]) :
  Calls Tryz.prog 121 (#[.agg us.toArray]++#[.pointer (some ⟨gN,0,none⟩)]) w (zBW false w):=by
 obtain ⟨A,n,c,B,m,d,C,q,r,rfl,h1,h2,h3⟩:=h;obtain rfl:n=N:=by rw [<- h1.len,hl]
 have e:(#[.agg ([.slice A n c,.slice B m d,.slice C q r]:List Value).toArray]++#[.pointer (some ⟨gN,0,none⟩)]:Array Value)=#[.agg #[.slice A n c,.slice B m d,.slice C q r],.pointer (some ⟨gN,0,none⟩)]:=rfl;rw [e];clear e;have hb0:=zAE w (.cells #[.slice A n c,.slice B m d,.slice C q r] 26);have kx:=Blk.new w 26 #[.slice A n c,.slice B m d,.slice C q r];have H1:=Zh (zEQ [.slice A n c,.slice B m d,.slice C q r] f _ (zBs _ _ _ _ ⟨A,n,c,B,m,d,C,q,r,rfl,h1,h2,h3⟩ hb0) hf);rw [hv] at H1;have m1:=h1.cap;have m2:=h1.max;replace kN:=kN.next hb0;have e2:((n:Int) != (n:Int))=false:=by simp
 clear h1 h2 h3 hf hv hl;obtain ⟨p0,p1,p2⟩:=kx.cells3;go_enter Tryz.func121,Tryz.ntmps121
 go_wp2_with fail
 generalize w.alloc (.cells #[.slice A n c,.slice B m d,.slice C q r] 26)=W0 at *;clear p0 p1 p2;refine H1.out.mono ?_;rintro e w1 ⟨rfl,hb1⟩
 obtain ⟨p0,p1,p2⟩:=(kx.next hb1).cells3;have n0:=(kN.next hb1).cells1;replace hb0:=zAA hb0 hb1;clear hb1 kx kN;go_wp2_with fail
 go_ret;exact ⟨rfl,hb0⟩
theorem zo9 (us:List Value) (d:Dy) (w:World) (h:RD w us d) (hd:Bd d) (hv:vld d=true) (hs:0<zBP d):Calls Tryz.prog 122 (#[.agg us.toArray]++#[]) w (zBW false w):=by
 rw [Array.append_empty];obtain ⟨A,n,c,rfl,h1⟩:=h;have hb0:=zAE w (.cells #[.bool d.neg,.slice A n c,.int .i64 d.e] 41);have kx:=Blk.new w 41 #[.bool d.neg,.slice A n c,.int .i64 d.e];have H1:=Zh (zEl [.bool d.neg,.slice A n c,.int .i64 d.e] d _ (zAQ _ _ _ _ ⟨A,n,c,rfl,h1⟩ hb0) hd);rw [hv] at H1;have H2:=Zh (fun W (hb:Below w.heap.size w W)=>zRo [.bool d.neg,.slice A n c,.int .i64 d.e] d W (zAQ _ _ _ _ ⟨A,n,c,rfl,h1⟩ hb) hd);have hr2:decide (zBP d<=0)=false:=Ye (by omega);clear h1 hd hv;obtain ⟨p0,p1,p2⟩:=kx.cells3;go_enter Tryz.func122,Tryz.ntmps122
 go_wp2_with fail
 generalize w.alloc (.cells #[.bool d.neg,.slice A n c,.int .i64 d.e] 41)=W0 at *;clear p0 p1 p2;refine H1.out.mono ?_;rintro e w1 ⟨rfl,hb1⟩
 obtain ⟨p0,p1,p2⟩:=(kx.next hb1).cells3;replace hb0:=zAA hb0 hb1;clear hb1 kx;go_wp2_with fail
 clear p0 p1 p2;refine (H2.out _ hb0).mono ?_;rintro e w2 ⟨rfl,hb2⟩
 generalize zBP d=s at *;replace hb0:=zAA hb0 hb2;go_wp2_with fail
 go_ret;exact ⟨rfl,hb0⟩
theorem zpA (us:List Value) (b:List Iv) (N gN:Nat) (w:World) (h:RB1 w us b) (hb:∀x∈b,BdI x) (hv:zEO b=true) (hl:b.length=N) (kN:Blk w gN 3 #[.int .i64 N]) :
  Calls Tryz.prog 124 (#[(us[0]?).getD undef]++#[.pointer (some ⟨gN,0,none⟩)]) w (zBW false w):=by
 obtain ⟨A,n,c,rfl,h1⟩:=h;obtain rfl:n=N:=by rw [<- h1.len,hl]
 have e:(#[(([.slice A n c]:List Value)[0]?).getD undef]++#[.pointer (some ⟨gN,0,none⟩)]:Array Value)=#[.slice A n c,.pointer (some ⟨gN,0,none⟩)]:=rfl;rw [e];clear e;have H1:=Zh (zDh A n c b w h1 hb);rw [hv] at H1;have m1:=h1.cap;have m2:=h1.max;have e2:((n:Int) != (n:Int))=false:=by simp
 clear h1 hb hv hl;go_enter Tryz.func124,Tryz.ntmps124
 go_wp2_with fail
 refine H1.out.mono ?_;rintro e w1 ⟨rfl,hb1⟩
 have n0:=(kN.next hb1).cells1;clear kN;go_wp2_with fail
 go_ret;exact ⟨rfl,hb1⟩
theorem zpB (vs:List Value) (t:Tk) (n N:Nat) (p:Int) (w:World) (h:RT w vs t) (hv:TkV t n N):Calls Tryz.prog 62 #[.agg vs.toArray,.int .i64 p] w (zBW (znB p) w):=by
 have hmf:∀ (fn:Fn) (first cap:Array Value) (w:World),(Instr.makeFunc fn first cap).run Tryz.prog w=.ok (.func fn first cap) w:=fun _ _ _ _=>rfl
 obtain ⟨A,n0,c,B,m,d,C,q,r,U,s,z,rfl,h1,h2,h3,h4⟩:=h;obtain rfl:n0=n+1:=by rw [<- h1.len,hv.lf]
 obtain rfl:n=m:=by rw [<- h2.len,hv.lv]
 obtain rfl:n=q:=by rw [<- h3.len,hv.lt]
 obtain rfl:n=s:=by rw [<- h4.len,hv.ls]
 have HPP:Hid (znB p=(decide (8<=p) && decide (p<=512))):=rfl;generalize znB p=PP at *;obtain ⟨b0,off0,f0,us0,rfl,hb0l,hf0,hu0,hR0,hc0⟩:=h1.get (j:=0) (by omega);obtain ⟨FA,fn,fc,FB,fm,fd,FC,fp,fq,rfl,g1,g2,g3⟩:=hR0;have hfm:=hv.f f0 (Yk hf0);obtain rfl:N=fn:=by rw [<- g1.len,hfm.2.1]
 have hW1:=zAE w (.cells #[.slice (some ⟨b0,off0,none⟩) (n+1) c,.slice B n d,.slice C n r,.slice U n z] 36);have hW2:=zAE (w.alloc (.cells #[.slice (some ⟨b0,off0,none⟩) (n+1) c,.slice B n d,.slice C n r,.slice U n z] 36)) (.cells #[.int .i64 N] 3);have HCF:=Zh (fun W (hb:Below w.heap.size w W) (gN:Nat) (kN:Blk W gN 3 #[.int .i64 N])=>zna (fun _=>false) 121 #[.pointer (some ⟨gN,0,none⟩)] (some ⟨b0,off0,none⟩) (n+1) c t.frames W (h1.next zBs hb) (zCQ Tryz.func121 (by kernel_rfl) rfl) (fun V us f hb2 hm hr=>zo8 us f N gN V hr (hv.f f hm).2.2 (hv.f f hm).1 (hv.f f hm).2.1 (kN.next hb2)));have HCS:=Zh (fun W (hb:Below w.heap.size w W)=>zCA (fun _=>false) 122 #[] U n z t.steps W (h4.next zAQ hb) (zCQ Tryz.func122 (by kernel_rfl) rfl) (fun V us f hb2 hm hr=>zo9 us f V hr (hv.s f hm).2.2 (hv.s f hm).1 (hv.s f hm).2.1));have HCB:=Zh (fun W (hb:Below w.heap.size w W) (gN:Nat) (kN:Blk W gN 3 #[.int .i64 N])=>znF (fun _=>false) 124 #[.pointer (some ⟨gN,0,none⟩)] C n r t.tubes W (h3.next zml hb) (zCQ Tryz.func124 (by kernel_rfl) rfl) (fun V us f hb2 hm hr=>zpA us f N gN V hr (hv.t f hm).2.2 (hv.t f hm).1 (hv.t f hm).2.1 (kN.next hb2)));rw [zqH] at HCF HCS HCB;have kx:=(Blk.new w 36 #[.slice (some ⟨b0,off0,none⟩) (n+1) c,.slice B n d,.slice C n r,.slice U n z]).next hW2;have k0:=Blk.new w 36 #[.slice (some ⟨b0,off0,none⟩) (n+1) c,.slice B n d,.slice C n r,.slice U n z];have kN:Blk ((w.alloc (.cells #[.slice (some ⟨b0,off0,none⟩) (n+1) c,.slice B n d,.slice C n r,.slice U n z] 36)).alloc (.cells #[.int .i64 N] 3)) (w.heap.size+1) 3 #[.int .i64 N]:=Blk.newAt _ _ _ (by simp);have hbb:=zAA hW1 hW2;have m1:=h1.cap;have m2:=h1.max;have m3:=h2.cap;have m4:=h2.max;have m5:=h3.cap;have m6:=h3.max;have m7:=h4.cap;have m8:=h4.max;have m9:=g1.cap;have m10:=g1.max;have hs1000:n<=1000:=hv.most;have hN4:N<=4:=hv.small;have f0':=(hW1.cell (p:=⟨b0,off0,none⟩) hb0l).trans (by simpa using hc0 0 _ rfl);obtain ⟨p0,p1,p2,p3⟩:=k0.cells4;clear h1 h2 h3 h4 hv hu0 hc0 hfm g1 g2 g3 hf0 hW2 k0;by_cases e1:8<=p
 rotate_left
 ·rw [Ye e1] at HPP
  clear kx kN HCF HCS HCB f0';go_enter Tryz.func62,Tryz.ntmps62
  go_wp2_with fail
  go_ret;exact ⟨by rw [HPP.out];rfl,hW1⟩
 by_cases e2:p<=512
 rotate_left
 ·rw [Ye e2,Bool.and_false] at HPP
  clear kx kN HCF HCS HCB f0';go_enter Tryz.func62,Tryz.ntmps62
  go_wp2_with fail
  go_ret;exact ⟨by rw [HPP.out];rfl,hW1⟩
 rw [Yf e1,Yf e2] at HPP;have hw:IntKind.i64.wrap ((n:Int)+1)=(n:Int)+1:=IntWalk.i64_in _ (by omega);have e3:(((n+1:Nat):Int) != (n:Int)+1)=false:=by rw [bne_eq_false_iff_eq];omega
 have e4:((n:Int) != (n:Int))=false:=by simp
 go_enter Tryz.func62,Tryz.ntmps62
 go_wp2_with fail
 clear p0 p1 p2 p3 f0' hW1;generalize ((w.alloc (.cells #[.slice (some ⟨b0,off0,none⟩) (n+1) c,.slice B n d,.slice C n r,.slice U n z] 36)).alloc (.cells #[.int .i64 N] 3))=W0 at *;refine (HCF.out _ hbb _ kN).mono ?_;rintro e w1 ⟨rfl,hb1⟩
 replace hbb:=zAA hbb hb1;replace kx:=kx.next hb1;replace kN:=kN.next hb1;clear hb1 HCF;obtain ⟨p0,p1,p2,p3⟩:=kx.cells4;go_wp2_with fail
 clear p0 p1 p2 p3;refine (HCS.out _ hbb).mono ?_;rintro e w2 ⟨rfl,hb2⟩
 replace hbb:=zAA hbb hb2;replace kx:=kx.next hb2;replace kN:=kN.next hb2;clear hb2 HCS;obtain ⟨p0,p1,p2,p3⟩:=kx.cells4;go_wp2_with fail
 clear p0 p1 p2 p3;refine (HCB.out _ hbb _ kN).mono ?_;rintro e w3 ⟨rfl,hb3⟩
 replace hbb:=zAA hbb hb3;clear hb3 HCB kx kN;go_wp2_with fail
 go_ret;exact ⟨by rw [HPP.out];rfl,hbb⟩
theorem zp0:HpO RB1:=by
 rintro W W' vs x e ⟨A,n,c,rfl,h⟩
 exact ⟨A,n,c,rfl,h.hp zUA e⟩
def tmK (hs:List Dy):Nat->Option (List Dy)
 | 0=>some [zAZ]
 | k+1=>match tmK hs k,hs[k]? with
  | some l,some h=>if (zCP (l.getD k zAZ) h).2=0 then some (l++[(zCP (l.getD k zAZ) h).1]) else none
  | _,_=>none
def sgN (i:Bool) (a g:Dy) (b:List Iv) (l:List Sg):Option (List Iv)->Option (List Sg)
 | none=>none
 | some e=>if i=true then some (l++[⟨a,g,b,e⟩]) else none
def sgK (t:Tk) (p:Int) (ts:List Dy):Nat->Option (List Sg)
 | 0=>some []
 | k+1=>match sgK t p ts k,t.tubes[k]? with
  | some l,some b=>sgN (zph (fbV (t.frames.getD k ⟨[],[],[]⟩) p) b) (ts.getD k zAZ) (ts.getD (k+1) zAZ) b l (mtB b (fbV (t.frames.getD (k+1) ⟨[],[],[]⟩) p))
  | _,_=>none
def zpn (s:List Iv):Option (List Sg)->(List Iv×List Sg)×Int
 | none=>(([],[]),14)
 | some l=>((s,l),0)
def zpV (t:Tk) (p:Int) (f:Fr) (n:Nat):Option (List Dy)->(List Iv×List Sg)×Int
 | none=>(([],[]),9)
 | some ts=>if zEO (fbV f p)=true then zpn (fbV f p) (sgK t p ts n) else (([],[]),14)
def znE (t:Tk) (p:Int):(List Iv×List Sg)×Int:=if znB p=true then zpV t p (t.frames.getD 0 ⟨[],[],[]⟩) t.tubes.length (tmK t.steps t.steps.length) else (([],[]),1)
theorem zps {hs:List Dy}:∀ (k:Nat) (l:List Dy),tmK hs k=some l->l.length=k+1:=by
 intro k
 induction k with
 | zero=>intro l h;injection h with h;subst h;rfl
 | succ k ih=>
  intro l h;unfold tmK at h
  split at h
  ·rename_i l' y h1 h2
   split at h
   ·injection h with h
    subst h;rw [Yu,ih _ h1];rfl
   ·cases h
  ·cases h
theorem zpa {hs:List Dy}{k:Nat}(h:tmK hs k=none):∀j,tmK hs (k+j)=none:=by
 intro j
 induction j with
 | zero=>exact h
 | succ j ih=>
  show tmK hs ((k+j)+1)=none
  unfold tmK;rw [ih]
theorem zpZ {t:Tk}{p:Int}{ts:List Dy}{k:Nat}(h:sgK t p ts k=none):∀j,sgK t p ts (k+j)=none:=by
 intro j
 induction j with
 | zero=>exact h
 | succ j ih=>
  show sgK t p ts ((k+j)+1)=none
  unfold sgK;rw [ih]
theorem zpq {t:Tk}{p:Int}{ts:List Dy}:∀ (k:Nat) (l:List Sg),sgK t p ts k=some l->l.length=k:=by
 intro k
 induction k with
 | zero=>intro l h;injection h with h;subst h;rfl
 | succ k ih=>
  intro l h;unfold sgK at h
  split at h
  ·rename_i l' y h1 h2
   unfold sgN at h
   split at h
   ·cases h
   ·split at h
    ·injection h with h
     subst h;rw [Yu,ih _ h1];rfl
    ·cases h
  ·cases h
def sgE (x y:Sg):Bool:=decide (zCH x.a y.a=0) && (decide (zCH x.b y.b=0) && (eqF ivE x.tube y.tube && eqF ivE x.e y.e))
def zpw (o:(List Iv×List Sg)×Int) (w:World) (e:Ending) (w':World):Prop:=∃A n c B m d,e=.returned (.tuple #[.agg #[.slice A n c,.slice B m d],.int .i64 o.2])/\Sl 7 RI w' A n c o.1.1/\Sl 8 RG w' B m d o.1.2/\Below w.heap.size w w'
theorem Blk.cells2 {w:World}{g:Nat}{t:TypeId}{a b:Value}(h:Blk w g t #[a,b]):w.cell? ⟨g,0,none⟩=some a/\w.cell? ⟨g,1,none⟩=some b:=⟨h.cell 0,h.cell 1⟩
theorem Blk.set2 {w:World}{g:Nat}{t:TypeId}{a b:Value}(h:Blk w g t #[a,b]) (x y:Value):Blk ((w.setCell ⟨g,0,none⟩ x).setCell ⟨g,1,none⟩ y) g t #[x,y]:=(h.set_ 0 x).set_ 1 y
theorem zm9 {B:Nat}{w w':World}{g:Nat}(h:Below B w w') (hg:B<=g) (x y:Value):Below B w ((w'.setCell ⟨g,0,none⟩ x).setCell ⟨g,1,none⟩ y):=(h.setCell (p:=⟨g,0,none⟩) hg x).setCell (p:=⟨g,1,none⟩) hg y
theorem znx {fn:Func}{k j:Nat}(h:fn.results=#[.cell k 58,.tmp j]) {tmps:Array Value}{W:World}{g:Nat}{t:TypeId}{x0 x1:Value}(hk:tmps.getD k undef=.pointer (some ⟨g,0,none⟩)) (hB:Blk W g t #[x0,x1]) :
  (results fn tmps).run Tryz.prog W=.ok (.tuple #[.agg #[x0,x1],tmps.getD j undef]) W:=by
 have c0:=hB.cell 0;have c1:=hB.cell 1;simp at c0 c1;have hk':tmps[k]?.getD undef=.pointer (some ⟨g,0,none⟩):=by simpa using hk
 simp [results,h,hk',go_sem,c0,c1]
theorem zqJ:(Tryz.prog.info? 67).map (fun i=>(i.zero,i.size,i.bytes))=some (some (.agg #[.bool false,.slice none 0 0,.int .i64 0,.bool false,.slice none 0 0,.int .i64 0,.slice none 0 0,.slice none 0 0]),8,128):=by kernel_rfl
theorem Acc.one {α:Type}{e:TypeId}{k:Nat}{R:World->List Value->α->Prop}{lo base:Nat}{w:World}{f:List Value}{y:α}{g:Nat}(hl:lo<=base) (hg:base<=g) (hb:Blk w g e f.toArray) (hn:f.length=k) (hR:∀W,R W f y):Acc e k R lo base w (.slice (some ⟨g,0,none⟩) 1 1) [f] [y]:=by
 have hz:=hb.lt;refine ⟨hl,⟨⟨by simp [hn],.inr ⟨g,1,f.toArray,rfl,hg,hb,Ya _,by simp [maxLen],by simp [hn],by simp [<- hn]⟩⟩,by simpa using hn⟩,rfl,fun j f' x hf hx=>?_⟩;have hj:j=0:=by have:=(Yb.1 hf).1;simp at this;exact this
 subst hj;simp at hf hx;subst hf hx;exact ⟨w.heap.size,w.heap.size,by omega,Ya _,fun o ho=>by injection ho with ho;omega,fun W _ _=>hR W⟩
def Gd (K:Nat) (G:Nat->Prop) (v:Value) (w:World) (b:Nat):Prop:=b<w.heap.size/\(G b\/K+1<=b)/\v.ownBlock≠some b
def Kq (K:Nat) (G:Nat->Prop) (v:Value) (w:World) (P:World->Prop):Prop:=On w.heap.size (Gd K G v w) w P
section
variable {K B:Nat}{G:Nat->Prop}{v v':Value}{w w':World}{P Q:World->Prop}
theorem Kq.here (h:Kq K G v w P):P w:=On.here h (Ya _)
theorem Kq.new (hv:∀o,v.ownBlock=some o->o<w.heap.size) (hK:K<w.heap.size) (h:On w'.heap.size (fun b=>b<w'.heap.size/\(Gd K G v w b\/w.heap.size<=b)) w' P):Kq K G v w' P:=
 h.sub (Ya _) (fun b hb=>⟨hb.1,by rcases hb.2 with h | h;exact h.2.1;exact .inr (by omega),by
  rcases hb.2 with h | h
  ·exact h.2.2
  ·intro e;have:=hv b e;omega⟩)
theorem Kq.move (h:Kq K G v w P) (hs:w.heap.size<=w'.heap.size) (hb:∀b,Gd K G v w b->w'.heap[b]? = w.heap[b]?) (hg:∀b,Gd K G v w b->v'.ownBlock≠some b):Kq K G v' w' P:=
 (On.move (w':=w') h hb).sub hs (fun b hb'=>⟨Yh hb'.1 hs,hb'.2.1,hg b hb'⟩)
theorem Kq.below (h:Kq K G v w P) (hb:Below w.heap.size w w'):Kq K G v w' P:=h.move hb.size (fun b hb'=>hb.block b hb'.1) (fun b hb'=>hb'.2.2)
theorem Kq.grown (h:Kq K G v w P) (h3:w.grownBy w' v.ownBlock) (h5:v'.ownBlock=v.ownBlock\/v'.ownBlock=some w.heap.size):Kq K G v' w' P:=
 h.move h3.size (fun b hb'=>h3.block b hb'.1 (fun e=>hb'.2.2 e.symm)) (fun b hb'=>by
  rcases h5 with h5 | h5
  ·rw [h5];exact hb'.2.2
  ·rw [h5];intro e;injection e with e;have:=hb'.1;omega)
theorem Kq.set (h:Kq K G v w P) (hG:∀b,G b->b<K) (i:Nat) (u:Value):Kq K G v (w.setCell ⟨K,i,none⟩ u) P:=
 h.move (by simp [World.setCell]) (fun b hb'=>Yl _ _ _ _ (by
  show b≠K
  rcases hb'.2.1 with h | h
  ·have:=hG b h;omega
  ·omega)) (fun b hb'=>hb'.2.2)
theorem Kq.ly (h:Ly B w P) (hK:K+1<=B) (hv:∀o,v.ownBlock=some o->o<B):Kq K G v w P:=
 h.on.sub (Ya _) (fun b hb=>⟨hb.2,.inr (by omega),fun e=>by have:=hv b e;omega⟩)
theorem Kq.old {w3:World}(h:On K G w3 P) (hb:Below K w3 w) (hG:∀b,G b->b<K) (hK:K<=w.heap.size) (hv:∀o,v.ownBlock=some o->K+1<=o):Kq K G v w P:=
 (h.move (fun b hb'=>hb.block b (hG b hb'))).sub hK (fun b hb'=>⟨by have:=hG b hb';omega,.inl hb',fun e=>by have:=hv b e;have:=hG b hb';omega⟩)
end
theorem zp7:∀W vs (x:Dy),RD W vs x->vs[0]? ≠ some (.int .u32 7):=by
 rintro W vs x ⟨A,n,c,rfl,_⟩
 simp
theorem zp5 {w:World}{A:Option Addr}{n c:Nat}{b:List Iv}(h:Sl 7 RI w A n c b):On w.heap.size (fun b=>b<w.heap.size) w (fun W=>Sl 7 RI W A n c b):=
 (zeL zml zp0 (show RB1 w [.slice A n c] b from ⟨A,n,c,rfl,h⟩)).imp (fun W h=>by
  obtain ⟨A',n',c',e,h⟩:=h;simp at e;obtain ⟨rfl,rfl,rfl⟩:=e;exact h)
theorem zpK {b:List Iv}(h:zEO b=true):1<=b.length/\b.length<=8:=by
 unfold zEO at h;rw [Yi,Yi] at h;exact ⟨of_decide_eq_true h.1.1,of_decide_eq_true h.1.2⟩
theorem zpI {α:Type}{e:TypeId}{k:Nat}{R:World->List Value->α->Prop}{K:Nat}{G:Nat->Prop}{v:Value}{w:World}{fs:List (List Value)}{xs:List α}(h:zHf e k R G (K+1) w v fs xs) (hG:∀b,G b->b<K) (i:Nat) (u:Value):zHf e k R G (K+1) (w.setCell ⟨K,i,none⟩ u) v fs xs:=
 h.keep (by simp [World.setCell]) (fun b _ hb=>Yl _ _ _ _ (by
  show b≠K
  rcases hb with h | h
  ·have:=hG b h;omega
  ·omega))
theorem znw (vs:List Value) (t:Tk) (n N:Nat) (p:Int) (w:World) (h:RT w vs t) (hv:TkV t n N) (ht:zBx w):Calls Tryz.prog 19 #[.agg vs.toArray,.int .i64 p] w (zpw (znE t p) w):=by
 obtain ⟨A,n0,c,B,m,d,C,q,r,U,s,z,rfl,h1,h2,h3,h4⟩:=h;obtain rfl:n0=n+1:=by rw [<- h1.len,hv.lf]
 obtain rfl:n=m:=by rw [<- h2.len,hv.lv]
 obtain rfl:n=q:=by rw [<- h3.len,hv.lt]
 obtain rfl:n=s:=by rw [<- h4.len,hv.ls]
 obtain ⟨b0,off0,f0,us0,rfl,hb0l,hf0,hu0,hR0,hc0⟩:=h1.get (j:=0) (by omega);have hR0':=hR0;obtain ⟨FA,fn,fc,FB,fm,fd,FC,fp,fq,rfl,g1,g2,g3⟩:=hR0;have hfm:=hv.f f0 (Yk hf0);have HPP:Hid (znE t p=if znB p=true then zpV t p f0 n (tmK t.steps n) else (([],[]),1)):=by
  have e0:t.frames.getD 0 ⟨[],[],[]⟩=f0:=by rw [List.getD_eq_getElem?_getD,hf0];rfl
  unfold Hid znE;rw [e0,hv.ls,hv.lt]
 generalize znE t p=PP at *;have HRI:=Zh (fun W (hb:Below w.heap.size w W)=>zpB [.slice (some ⟨b0,off0,none⟩) (n+1) c,.slice B n d,.slice C n r,.slice U n z] t n N p W ⟨_,_,_,_,_,_,_,_,_,_,_,_,rfl,h1.next zBs hb,h2.next zmt hb,h3.next zml hb,h4.next zAQ hb⟩ hv);have HBX:=Zh (fun (us:List Value) (f:Fr) W (hb:Below w.heap.size w W) (hr:RF W us f) (hm:f∈t.frames) (hp:znB p=true)=>by
  have h:=zpM us f p W hr (hv.f f hm).2.2 (hv.f f hm).1 hp (ht.next hb);rw [(hv.f f hm).2.1] at h;exact h)
 have HTB:=Zh (fun W (hb:Below w.heap.size w W)=>ht.next hb);have HV:=Zh hv;have HF0:=Zh hR0';have HM0:=Zh (Yk hf0);have H0:=Zh hf0;have HX1:=Zh h1;have HX3:=Zh h3;have HX4:=Zh h4;have m1:=h1.cap;have m2:=h1.max;have m5:=h3.cap;have m6:=h3.max;have m7:=h4.cap;have m8:=h4.max;have hs1000:n<=1000:=hv.most;have hW1:=zAE w (.cells #[.slice (some ⟨b0,off0,none⟩) (n+1) c,.slice B n d,.slice C n r,.slice U n z] 36);have hW2:=zAE (w.alloc (.cells #[.slice (some ⟨b0,off0,none⟩) (n+1) c,.slice B n d,.slice C n r,.slice U n z] 36)) (.cells #[.slice none 0 0,.slice none 0 0] 58);have kx:=(Blk.new w 36 #[.slice (some ⟨b0,off0,none⟩) (n+1) c,.slice B n d,.slice C n r,.slice U n z]).next hW2;have kr:Blk ((w.alloc (.cells #[.slice (some ⟨b0,off0,none⟩) (n+1) c,.slice B n d,.slice C n r,.slice U n z] 36)).alloc (.cells #[.slice none 0 0,.slice none 0 0] 58)) (w.heap.size+1) 58 #[.slice none 0 0,.slice none 0 0]:=Blk.newAt _ _ _ (by simp);have hz0:((w.alloc (.cells #[.slice (some ⟨b0,off0,none⟩) (n+1) c,.slice B n d,.slice C n r,.slice U n z] 36)).alloc (.cells #[.slice none 0 0,.slice none 0 0] 58)).heap.size=w.heap.size+2:=by simp
 have hz0':=Ys hz0.symm;have hb0:=zAA hW1 hW2;have c00:=hc0 0 _ rfl;have c01:=hc0 1 _ rfl;have c02:=hc0 2 _ rfl;rw [Nat.zero_mul,Nat.add_zero] at c00 c01 c02;obtain ⟨p0,p1,p2,p3⟩:=kx.cells4;have HB0:=Zh hb0;have HKX:=Zh kx;have HKR:=Zh kr;have HC0:=Zh (And.intro c00 (And.intro c01 c02));clear h1 h2 h3 h4 hR0' g1 g2 g3 hf0 hu0 hc0 hfm hv ht hW1 hW2 kx kr hb0 hz0 c00 c01 c02;go_enter Tryz.func19,Tryz.ntmps19
 go_wp2_with fail
 clear p0 p1 p2 p3;generalize ((w.alloc (.cells #[.slice (some ⟨b0,off0,none⟩) (n+1) c,.slice B n d,.slice C n r,.slice U n z] 36)).alloc (.cells #[.slice none 0 0,.slice none 0 0] 58))=W0 at *;refine (HRI.out _ HB0.out).mono ?_;rintro e w1 ⟨rfl,hb1⟩
 have HB1:=Zh (zAA HB0.out hb1);have hz1:=hb1.size;have HKX1:=Zh (HKX.out.next hb1);have HKR1:=Zh (HKR.out.next hb1);clear hb1 HRI HB0 HKX HKR;cases hpp:znB p
 ·rw [hpp] at HPP
  have HP:Hid (PP=(([],[]),1)):=HPP.out;clear hpp;obtain ⟨r0,r1⟩:=(HKR1.out).cells2;have f0:=(HKR1.out).frozen 0;have f1:=(HKR1.out).frozen 1;have HRR:=Zh (HKR1.out);have HBB9:=Zh (HB1.out);go_wp2_with fail
  refine Yn (znx Tryz.results19 rfl (HRR.out.set2 _ _)) rfl ?_;rw [HP.out];exact ⟨none,0,0,none,0,0,rfl,Sl.nil _,Sl.nil _,zm9 HBB9.out (by omega) _ _⟩
 have HPR:=Zh hpp;rw [hpp] at HPP;clear hpp;have HPP2:Hid (PP=zpV t p f0 n (tmK t.steps n)):=HPP.out;clear HPP;obtain ⟨p0,p1,p2,p3⟩:=HKX1.out.cells4;have hbD:=zAE w1 (.cells #[.bool false,.slice none 0 0,.int .i64 0] 41);have HAC:Hid (Acc 41 3 RD w1.heap.size w1.heap.size (w1.alloc (.cells #[.bool false,.slice none 0 0,.int .i64 0] 41)) (.slice (some ⟨w1.heap.size,0,none⟩) 1 1) [[.bool false,.slice none 0 0,.int .i64 0]] [zAZ]):=Acc.one (Ya _) (Ya _) (Blk.new _ _ _) rfl (fun W=>⟨none,0,0,rfl,SL.nil W⟩);have HBD:=Zh hbD;have hzd:(w1.alloc (.cells #[.bool false,.slice none 0 0,.int .i64 0] 41)).heap.size=w1.heap.size+1:=by simp
 have hzd1:=Ys hzd.symm;have q0:=hbD.cell (p:=⟨w.heap.size,3,none⟩) (by have:=HKX1.out.lt;exact this);rw [p3] at q0;clear hbD hzd;go_wp2_with fail
 clear p0 p1 p2 p3 q0;generalize w1.alloc (.cells #[.bool false,.slice none 0 0,.int .i64 0] 41)=W2 at *
 go_loopw [6,28] (fun v i wr=>∃ (k:Nat) (fs:List (List Value)) (l:List Dy),k<=n/\i=.int .i64 k/\Hid (tmK t.steps k=some l)/\Hid (∀x∈l,Bd x)/\Hid (Acc 41 3 RD w1.heap.size w1.heap.size wr v fs l)/\Hid (Below w1.heap.size w1 wr)/\w1.heap.size+1<=wr.heap.size) (fun _ i _=>n - (intOf i).toNat)
 case atStart=>exact ⟨0,_,[zAZ],by omega,rfl,rfl,fun x hx=>by rw [List.mem_singleton.1 hx];exact zKg,HAC,HBD,hzd1⟩
 case round=>
  clear HAC HBD hzd1;obtain ⟨k,fs,l,hk,rfl,HT,HBdl,HA,HB,hzr⟩:=hrel;have hll:=zps k l HT.out;obtain ⟨tA,tc,rfl,hly⟩:=HA.out.ly;rw [hll] at hly HA ⊢;have HBw:=Zh (HB1.out.trans (HB.out.mono HB1.out.size));by_cases hlt:k<n
  ·obtain ⟨b4,o4,d,us4,eU,hb4l,hd4,hu4,hR4,hc4⟩:=HX4.out.get hlt
   subst eU;obtain ⟨A4,n4,c4,rfl,hs4⟩:=hR4;obtain ⟨b6,o6,x,us6,eT,hb6l,hx6,hu6,hR6,hc6⟩:=hly.here.get (j:=k) (by omega);subst eT;obtain ⟨A6,n6,c6,rfl,hs6⟩:=hR6;have hvd:=HV.out.s d (Yk hd4);have hxb:=HBdl.out x (Yk hx6);have hTN:tmK t.steps (k+1)=if (zCP x d).2=0 then some (l++[(zCP x d).1]) else none:=by
    rw [tmK,HT.out,hd4]
    show (if (zCP (l.getD k zAZ) d).2=0 then _ else _)=_
    rw [List.getD_eq_getElem?_getD,hx6];rfl
   have hbo:(zCP x d).1.l.length<=256:=(zpg (k:=(zCP x d).2) (fun y hy=>hs6.lt y hy) (fun y hy=>hs4.lt y hy) rfl).1;obtain ⟨o,ho⟩:∃o,o=zCP x d:=⟨_,rfl⟩;rw [<- ho] at hTN hbo;have HAD:=Zh (fun W (h6:SL W A6 n6 c6 x.l) (h4:SL W A4 n4 c4 d.l) (hb:Below w.heap.size w W)=>show Calls Tryz.prog 53 #[.agg #[.bool x.neg,.slice A6 n6 c6,.int .i64 x.e],.agg #[.bool d.neg,.slice A4 n4 c4,.int .i64 d.e]] W (zJI o.1 o.2 W) from by
    rw [ho];exact zIO x.neg d.neg A6 A4 n6 c6 n4 c4 x.l d.l x.e d.e W h6 h4 (HTB.out W hb) (by have:=hs6.len;unfold Bd at hxb;omega) (by have:=hs4.len;have:=hvd.2.2;unfold Bd at this;omega))
   have q0:=(HBw.out.cell (p:=⟨b4,o4+k*3,none⟩) hb4l).trans (hc4 0 _ rfl);have q1:=(HBw.out.cell (p:=⟨b4,o4+k*3+1,none⟩) hb4l).trans (hc4 1 _ rfl);have q2:=(HBw.out.cell (p:=⟨b4,o4+k*3+2,none⟩) hb4l).trans (hc4 2 _ rfl);have hbA:=zAE wr (.cells #[.bool d.neg,.slice A4 n4 c4,.int .i64 d.e] 41);have kh:=(Blk.new wr 41 #[.bool d.neg,.slice A4 n4 c4,.int .i64 d.e]).cells3;have HTN:=Zh hTN;have HBO:=Zh hbo;have HS4:=Zh (fun W (hb:Below w.heap.size w W)=>hs4.below hb);have HS6:=Zh (fun W (hb:Below wr.heap.size wr W)=>hs6.below hb);have HC6:=Zh (And.intro (hc6 0 _ rfl) (And.intro (hc6 1 _ rfl) (hc6 2 _ rfl)));have hfl:fs.length<=2000:=by have:=HA.out.len;omega
   have hw1:IntKind.i64.wrap (k:Int)=(k:Int):=IntWalk.i64_in _ (by omega);have hkl:(k:Int)<(k:Int)+1:=by omega
   have htc:=hly.here.cap;have htm:=hly.here.max;clear hu4 hu6 hc4 hc6 hs4 hs6 hx6 hd4 hvd hxb hTN hbo HT hly ho;go_wp2_with fail
   clear q0 q1 q2;have HK:Hid (∀V,Below (wr.alloc (.cells #[.bool d.neg,.slice A4 n4 c4,.int .i64 d.e] 41)).heap.size (wr.alloc (.cells #[.bool d.neg,.slice A4 n4 c4,.int .i64 d.e] 41)) V->(fun W=>(W.cell? ⟨b6,o6+k*3,none⟩=some (.bool x.neg)/\W.cell? ⟨b6,o6+k*3+1,none⟩=some (.slice A6 n6 c6)/\W.cell? ⟨b6,o6+k*3+2,none⟩=some (.int .i64 x.e))/\W.cell? ⟨wr.heap.size,0,none⟩=some (.bool d.neg)/\W.cell? ⟨wr.heap.size,1,none⟩=some (.slice A4 n4 c4)/\W.cell? ⟨wr.heap.size,2,none⟩=some (.int .i64 d.e)) V):=fun V hV=>by
    have hV2:=zAA hbA hV;have e0:=(hV2.cell (p:=⟨b6,o6+k*3,none⟩) hb6l).trans HC6.out.1;have e1:=(hV2.cell (p:=⟨b6,o6+k*3+1,none⟩) hb6l).trans HC6.out.2.1;have e2:=(hV2.cell (p:=⟨b6,o6+k*3+2,none⟩) hb6l).trans HC6.out.2.2;have hlt3:wr.heap.size<(wr.alloc (.cells #[.bool d.neg,.slice A4 n4 c4,.int .i64 d.e] 41)).heap.size:=by simp
    exact ⟨⟨e0,e1,e2⟩,(hV.cell (p:=⟨wr.heap.size,0,none⟩) hlt3).trans kh.1,(hV.cell (p:=⟨wr.heap.size,1,none⟩) hlt3).trans kh.2.1,(hV.cell (p:=⟨wr.heap.size,2,none⟩) hlt3).trans kh.2.2⟩
   have hzA:wr.heap.size+1<=(wr.alloc (.cells #[.bool d.neg,.slice A4 n4 c4,.int .i64 d.e] 41)).heap.size:=by simp
   have HBA:=Zh hbA;generalize wr.alloc (.cells #[.bool d.neg,.slice A4 n4 c4,.int .i64 d.e] 41)=W3 at *;have hB:=zBw W3;have HKp:=Zh (HK.out _ hB);clear kh hbA
   go_cut [9,10] (fun s9 s10 wx=>∃ (g:Nat) (A5:Option Addr) (n5 c5:Nat),s9=.pointer (some ⟨g,0,none⟩)/\s10=.int .i64 o.2/\Blk wx g 41 #[.bool o.1.neg,.slice A5 n5 c5,.int .i64 o.1.e]/\SL wx A5 n5 c5 o.1.l/\zAn wr.heap.size A5 n5/\wr.heap.size<=g/\Below W3.heap.size W3 wx)
   case first=>
    refine wp_region_held_drew (S:=(fun W=>(W.cell? ⟨b6,o6+k*3,none⟩=some (.bool x.neg)/\W.cell? ⟨b6,o6+k*3+1,none⟩=some (.slice A6 n6 c6)/\W.cell? ⟨b6,o6+k*3+2,none⟩=some (.int .i64 x.e))/\W.cell? ⟨wr.heap.size,0,none⟩=some (.bool d.neg)/\W.cell? ⟨wr.heap.size,1,none⟩=some (.slice A4 n4 c4)/\W.cell? ⟨wr.heap.size,2,none⟩=some (.int .i64 d.e))) (by kernel_rfl) (HKp.out) (fun hH=>?_);generalize W3.drew=Wd at *;refine tkh 0 hH ?_;refine tkh 1 hH ?_;refine tkh 2 hH ?_;refine tkh 3 hH ?_;refine tkh 4 hH ?_;refine tkh 5 hH ?_;refine tkh 6 hH ?_;simp only [Act.put,sT,sZ,sS];refine Yj (rs:=[7,11]) (by kernel_rfl) (by simp) ?_;refine Yc (o:=⟨_,_,_,_,_,_⟩) rfl (fun K hK=>?_) ?_
    ·go_simp
     refine (HAD.out _ (HS6.out _ (zAA HBA.out hB)) (HS4.out _ (zAA HBw.out (zAA HBA.out hB))) (zAA HBw.out (zAA HBA.out hB))).mono ?_;rintro e3 V1 ⟨A5,n5,c5,rfl,hs5,hf5,hc⟩
     have HS5:=Zh hs5;have HF5:=Zh (hf5.mono (Yq HBA.out.size hB.size));replace hB:=zAA hB hc;replace HKp:=Zh (HK.out _ hB)
     try replace HG:=Zh (HG.out.next hc)
     clear hc hs5 hf5;go_wp2_with fail
     refine hK.out _ _ (HKp.out) (fun hH=>?_);clear hK K;refine tkh 8 hH ?_;refine tkh 9 hH ?_;refine tkh 10 hH ?_;simp only [Act.put,sT,sZ,sS];refine rdh 11 (fun K hK=>?_)
     go_simp
     have HG:Hid (Blk (V1.alloc (.cells #[.bool false,.slice none 0 0,.int .i64 0] 41)) V1.heap.size 41 #[.bool false,.slice none 0 0,.int .i64 0]):=Blk.new _ _ _;have hc:=zAE V1 (.cells #[.bool false,.slice none 0 0,.int .i64 0] 41);have hga:=hB.size;replace hB:=zAA hB hc;replace HKp:=Zh (HK.out _ hB)
     try replace HS5:=Zh (HS5.out.below hc)
     clear hc;generalize (V1.alloc (.cells #[.bool false,.slice none 0 0,.int .i64 0] 41))=Y1 at *;refine hK.out _ _ (HKp.out) (fun hH=>?_);clear hK K;refine rdh 12 (fun K hK=>?_);obtain ⟨r0,r1,r2⟩:=HG.out.cells3;have f0:=HG.out.frozen 0;have f1:=HG.out.frozen 1;have f2:=HG.out.frozen 2
     go_simp
     clear r0 r1 r2 f0 f1 f2;have HG2:=Zh (HG.out.set3 (.bool o.1.neg) (.slice A5 n5 c5) (.int .i64 o.1.e));have hgz:wr.heap.size<=V1.heap.size:=by omega
     have hgz2:W3.heap.size<=V1.heap.size:=by omega
     have haw:=HS5.out.away HG.out (zpm _ _ _ _ _);have HS6':=Zh (((HS5.out.past haw 0 (.bool o.1.neg)).past haw 1 (.slice A5 n5 c5)).past haw 2 (.int .i64 o.1.e));have hbe:=zAG hB hgz2 (.bool o.1.neg) (.slice A5 n5 c5) (.int .i64 o.1.e);generalize (((Y1.setCell ⟨V1.heap.size,0,none⟩ (.bool o.1.neg)).setCell ⟨V1.heap.size,1,none⟩ (.slice A5 n5 c5)).setCell ⟨V1.heap.size,2,none⟩ (.int .i64 o.1.e))=WE at *;replace HKp:=Zh (HK.out _ hbe);refine hK.out _ _ (HKp.out) (fun hH=>?_);clear hK K;refine tkh 13 hH ?_;simp only [Act.put,sT,sZ,sS];refine wpAnyH_done (by kernel_rfl) ?_ _;go_wp2_with fail
     go_meet
     exact ⟨_,A5,n5,c5,rfl,rfl,HG2.out,HS6'.out,HF5.out,hgz,hbe⟩
    refine Yc (o:=⟨_,_,_,_,_,_⟩) rfl (fun K hK=>?_) Yd
    go_simp
    have HG:Hid (Blk (Wd.alloc (.cells #[.bool false,.slice none 0 0,.int .i64 0] 41)) Wd.heap.size 41 #[.bool false,.slice none 0 0,.int .i64 0]):=Blk.new _ _ _;have hc:=zAE Wd (.cells #[.bool false,.slice none 0 0,.int .i64 0] 41);have hga:=hB.size;replace hB:=zAA hB hc;replace HKp:=Zh (HK.out _ hB)
    try replace HS5:=Zh (HS5.out.below hc)
    clear hc;generalize (Wd.alloc (.cells #[.bool false,.slice none 0 0,.int .i64 0] 41))=Y2 at *;refine hK.out _ _ (HKp.out) (fun hH=>?_);clear hK K;refine rdh 7 (fun K hK=>?_)
    go_simp
    refine (HAD.out _ (HS6.out _ (zAA HBA.out hB)) (HS4.out _ (zAA HBw.out (zAA HBA.out hB))) (zAA HBw.out (zAA HBA.out hB))).mono ?_;rintro e3 V5 ⟨A5,n5,c5,rfl,hs5,hf5,hc⟩
    have HS5:=Zh hs5;have HF5:=Zh (hf5.mono (Yq HBA.out.size hB.size));replace hB:=zAA hB hc;replace HKp:=Zh (HK.out _ hB)
    try replace HG:=Zh (HG.out.next hc)
    clear hc hs5 hf5;go_wp2_with fail
    refine hK.out _ _ (HKp.out) (fun hH=>?_);clear hK K;refine tkh 8 hH ?_;refine tkh 9 hH ?_;refine tkh 10 hH ?_;simp only [Act.put,sT,sZ,sS];refine rdh 12 (fun K hK=>?_);obtain ⟨r0,r1,r2⟩:=HG.out.cells3;have f0:=HG.out.frozen 0;have f1:=HG.out.frozen 1;have f2:=HG.out.frozen 2
    go_simp
    clear r0 r1 r2 f0 f1 f2;have HG2:=Zh (HG.out.set3 (.bool o.1.neg) (.slice A5 n5 c5) (.int .i64 o.1.e));have hgz:wr.heap.size<=Wd.heap.size:=by omega
    have hgz2:W3.heap.size<=Wd.heap.size:=by omega
    have haw:=HS5.out.away HG.out (zpm _ _ _ _ _);have HS6':=Zh (((HS5.out.past haw 0 (.bool o.1.neg)).past haw 1 (.slice A5 n5 c5)).past haw 2 (.int .i64 o.1.e));have hbe:=zAG hB hgz2 (.bool o.1.neg) (.slice A5 n5 c5) (.int .i64 o.1.e);generalize (((V5.setCell ⟨Wd.heap.size,0,none⟩ (.bool o.1.neg)).setCell ⟨Wd.heap.size,1,none⟩ (.slice A5 n5 c5)).setCell ⟨Wd.heap.size,2,none⟩ (.int .i64 o.1.e))=WE at *;replace HKp:=Zh (HK.out _ hbe);refine hK.out _ _ (HKp.out) (fun hH=>?_);clear hK K;refine tkh 13 hH ?_;simp only [Act.put,sT,sZ,sS];refine wpAnyH_done (by kernel_rfl) ?_ _;go_wp2_with fail
    go_meet
    exact ⟨_,A5,n5,c5,rfl,rfl,HG2.out,HS6'.out,HF5.out,hgz,hbe⟩
   case rest=>
    obtain ⟨g,A5,n5,c5,rfl,rfl,hg,hs5,hf5,hgz,hb3⟩:=hcut;have HB3:=Zh (zAA HBA.out hb3);obtain ⟨y,e5⟩:=o;have HG:Hid (Blk wc g 41 #[.bool y.neg,.slice A5 n5 c5,.int .i64 y.e]):=hg;have HS5:Hid (SL wc A5 n5 c5 y.l):=hs5;have HF5:=Zh hf5;have HTN2:Hid (tmK t.steps (k+1)=if e5=0 then some (l++[y]) else none):=HTN.out;have HBO2:Hid (y.l.length<=256):=HBO.out;dsimp only;clear hg hs5 hf5 hb3 HTN HBO HK HKp HAD HS4 HS6 HC6 HBA;by_cases he:e5=0
    rotate_left
    ·have he2:(e5 != 0)=true:=by rw [bne_iff_ne];exact he
     have HP:Hid (PP=(([],[]),9)):=by
      have h1:=HTN2.out;rw [if_neg he] at h1;have h2:=zpa h1 (n - (k+1));rw [show k+1+(n - (k+1))=n by omega] at h2;unfold Hid;rw [HPP2.out,h2];rfl
     have hz3:=HB3.out.size;have HBc:=Zh (HB.out.trans (HB3.out.mono (by omega)));clear he;obtain ⟨r0,r1⟩:=(HKR1.out.next HBc.out).cells2;have f0:=(HKR1.out.next HBc.out).frozen 0;have f1:=(HKR1.out.next HBc.out).frozen 1;have HRR:=Zh (HKR1.out.next HBc.out);have HBB9:=Zh (HB1.out.trans (HBc.out.mono HB1.out.size));go_wp2_with fail
     refine Yn (znx Tryz.results19 rfl (HRR.out.set2 _ _)) rfl ?_;rw [HP.out];exact ⟨none,0,0,none,0,0,rfl,Sl.nil _,Sl.nil _,zm9 HBB9.out (by omega) _ _⟩
    ·subst he
     have HTN3:Hid (tmK t.steps (k+1)=some (l++[y])):=by unfold Hid;rw [HTN2.out,if_pos rfl]
     obtain ⟨x0,x1,x2⟩:=HG.out.cells3;have hb5:=zAE wc (.cells #[.bool y.neg,.slice A5 n5 c5,.int .i64 y.e] 41);have HLY:=Zh (((HS5.out.ly HF5.out).imp (Q:=fun W=>RD W [.bool y.neg,.slice A5 n5 c5,.int .i64 y.e] y) (fun W h=>⟨A5,n5,c5,rfl,h⟩)).up (Nat.le_of_lt (by simp:wc.heap.size<(wc.alloc (.cells #[.bool y.neg,.slice A5 n5 c5,.int .i64 y.e] 41)).heap.size)) (Ya _) (fun b _ hb=>hb5.block b hb));have hbB:=zAA HB3.out hb5;have HA2:=Zh (HA.out.keep hbB.size (fun b _ hb=>hbB.block b hb));have HOW:Hid (∀o,(Value.slice (some ⟨b6,o6,none⟩) (k+1) tc).ownBlock=some o->o<wr.heap.size\/wc.heap.size+1<=o):=fun o ho=>.inl (HA.out.own.lt o ho).2
     have HBB:=Zh hbB;have hzb:=HB3.out.size;clear hb5 hbB HG HS5 HF5 HTN2
     go_wp2_with (at_builtin;go_loud (refine zIK rfl _ _ 22 rfl 41 3 40 _ zQF rfl (by omega) (by omega) Tryz.underlying22 w1.heap.size w1.heap.size _ fs l rfl HA2.out ⟨wc.heap.size,0,none⟩ 1 [.bool y.neg,.slice A5 n5 c5,.int .i64 y.e] y rfl rfl ?c1 ?c2 ?c3 ?c4 wr.heap.size (wc.heap.size+1) ?c5 ?c6 HOW.out ?c7 ?_))
     case c1=>
      intro j u hj;rw [zEM]
      match j,hj with
      | 0,hj=>simp at hj;subst hj;simp
      | 1,hj=>simp at hj;subst hj;simp
      | 2,hj=>simp at hj;subst hj;simp
      | n+3,hj=>simp at hj
     case c2=>intro u hu;simp at hu;rcases hu with rfl | rfl | rfl <;> rfl
     case c3=>omega
     case c4=>simp;omega
     case c5=>omega
     case c6=>simp
     case c7=>exact fun W h1 h2=>HLY.out W (by simpa using h1) (fun b hb1 hb2=>h2 b hb1 (by simpa using hb2))
     intro v' w5 hacc hb6;have HA3:=Zh hacc;have HB5:=Zh ((HB.out.trans (HBB.out.mono (by omega))).trans hb6);have hz5:=hb6.size;have hz6:=HBB.out.size;clear hacc hb6 x0 x1 x2;go_wp2_with fail
     go_roundw
     case rel=>exact ⟨k+1,_,l++[y],by omega,by go_num,HTN3.out,fun x hx=>by
      rcases Yt.1 hx with hx | hx
      ·exact HBdl.out x hx
      ·rw [List.mem_singleton.1 hx];exact Yq HBO2.out (by omega),HA3.out,HB5.out,by omega⟩
     case measure=>simp [intOf];omega
  ·obtain rfl:n=k:=by omega
   have HPP3:Hid (PP=if zEO (fbV f0 p)=true then zpn (fbV f0 p) (sgK t p l n) else (([],[]),14)):=by
    unfold Hid;rw [HPP2.out,HT.out];rfl
   have HTL:=Zh hly;have HKX2:=Zh (HKX1.out.next HB.out);have HKR2:=Zh (HKR1.out.next HB.out);obtain ⟨p0,p1,p2,p3⟩:=HKX2.out.cells4;have q0:=(HBw.out.cell (p:=⟨b0,off0,none⟩) hb0l).trans HC0.out.1;have q1:=(HBw.out.cell (p:=⟨b0,off0+1,none⟩) hb0l).trans HC0.out.2.1;have q2:=(HBw.out.cell (p:=⟨b0,off0+2,none⟩) hb0l).trans HC0.out.2.2;have HBX0:=Zh (HBX.out _ f0 wr HBw.out (zBs _ _ _ _ HF0.out HBw.out) HM0.out HPR.out);have hzw:=HBw.out.size;clear hly HA HPP2 HT HBdl HC0;go_wp2_with fail
   clear p0 p1 p2 p3 q0 q1 q2;refine HBX0.out.mono ?_;rintro e w3 ⟨A8,c8,rfl,hly8,hb3⟩
   have hz3:=hb3.size;have HB3:=Zh (zAA HBw.out hb3);have HKX3:=Zh (HKX2.out.next hb3);have HKR3:=Zh (HKR2.out.next hb3);have HLY8:=Zh hly8;have HTL3:=Zh (HTL.out.up hb3.size (Ya _) (fun b _ hb=>hb3.block b hb));clear hly8 hb3 HTL HKX2 HKR2 HBX0 HKX1 HKR1;have hb4:=zAE w3 (.cells #[.slice A8 N c8,.slice none 0 0] 58);have hg3:Blk (w3.alloc (.cells #[.slice A8 N c8,.slice none 0 0] 58)) w3.heap.size 58 #[.slice A8 N c8,.slice none 0 0]:=Blk.new _ _ _;have HBV:=Zh (zDh A8 N c8 (fbV f0 p) (w3.alloc (.cells #[.slice A8 N c8,.slice none 0 0] 58)) (HLY8.out.here.next zAX hb4) (znr f0 p));obtain ⟨s0,s1⟩:=hg3.cells2;have HG3:=Zh hg3;have HB4:=Zh hb4;have hz4:(w3.alloc (.cells #[.slice A8 N c8,.slice none 0 0] 58)).heap.size=w3.heap.size+1:=by simp
   have hz4':=Ys hz4.symm;clear hg3 hb4 hz4;go_wp2_with fail
   clear s0 s1;generalize w3.alloc (.cells #[.slice A8 N c8,.slice none 0 0] 58)=W4 at *;refine HBV.out.mono ?_;rintro e w5 ⟨rfl,hb5⟩
   have hz5:=hb5.size;have HG5:=Zh (HG3.out.next hb5);have HB5:=Zh (HB4.out.trans (hb5.mono (by omega)));clear hb5 HBV HG3 HB4;generalize hbv:zEO (fbV f0 p)=bv at *;cases bv
   ·have HP:Hid (PP=(([],[]),14)):=HPP3.out
    obtain ⟨r0,r1⟩:=(HKR3.out.below HB5.out (by omega)).cells2;have f0:=(HKR3.out.below HB5.out (by omega)).frozen 0;have f1:=(HKR3.out.below HB5.out (by omega)).frozen 1;have HRR:=Zh (HKR3.out.below HB5.out (by omega));have HBB9:=Zh (HB3.out.trans (HB5.out.mono HB3.out.size));go_wp2_with fail
    refine Yn (znx Tryz.results19 rfl (HRR.out.set2 _ _)) rfl ?_;rw [HP.out];exact ⟨none,0,0,none,0,0,rfl,Sl.nil _,Sl.nil _,zm9 HBB9.out (by omega) _ _⟩
   have HPP4:Hid (PP=zpn (fbV f0 p) (sgK t p l n)):=HPP3.out;clear HPP3 hbv;obtain ⟨G,hG⟩:∃G:Nat->Prop,G=fun b=>b<w3.heap.size/\b≠w.heap.size+1:=⟨_,rfl⟩
   have HGL:Hid (∀b,G b->b<w3.heap.size):=by subst hG;exact fun b hb=>hb.1
   have HGR:Hid (∀b,G b->b≠w.heap.size+1):=by subst hG;exact fun b hb=>hb.2
   have HTS:Hid (On w3.heap.size G w3 (fun W=>Sl 3 RD W tA (n+1) tc l)):=HTL3.out.on.sub (Ya _) (fun b hb=>by subst hG;exact ⟨hb.2,by omega⟩);have HOL:Hid (∀P:World->Prop,On w.heap.size (fun b=>b<w.heap.size) w P->On w3.heap.size G w3 P):=fun P hP=>(hP.move (fun b hb=>HB3.out.block b hb)).sub HB3.out.size (fun b hb=>by subst hG;exact ⟨by have:=HB3.out.size;omega,by omega⟩)
   have HST0:Hid (On w3.heap.size G w3 (fun W=>Sl 7 RI W A8 N c8 (fbV f0 p))):=HLY8.out.on.sub (Ya _) (fun b hb=>by subst hG;exact ⟨hb.2,by omega⟩);clear hG HTL3;have p2:=(HKX3.out.below HB5.out (by omega)).cells4.2.2.1;obtain ⟨s0,s1⟩:=HG5.out.cells2;have hK5:w3.heap.size+1<=w5.heap.size:=by omega
   go_wp2_with fail
   clear p2 s0 s1
   go_loopw [12,68] (fun bf i wr=>∃ (k:Nat) (v:Value) (fs:List (List Value)) (gs:List Sg) (A7:Option Addr) (c7:Nat) (f:Fr),k<=n/\i=.int .i64 k/\bf=.slice A7 N c7/\t.frames[k]? = some f/\Hid (sgK t p l k=some gs)/\Hid (Kq w3.heap.size G v wr (fun W=>Sl 7 RI W A7 N c7 (fbV f p)))/\Hid (zHf 67 8 RG G (w3.heap.size+1) wr v fs gs)/\Hid (Blk wr w3.heap.size 58 #[.slice A8 N c8,v])/\Hid (Below w3.heap.size w3 wr)/\w3.heap.size+1<=wr.heap.size) (fun _ i _=>n - (intOf i).toNat)
   case atStart=>exact ⟨0,_,[],[],A8,c8,f0,by omega,rfl,rfl,H0.out,rfl,Kq.old (HST0.out) HB5.out HGL.out (by omega) (fun o ho=>by cases ho),zHf.nil _ _ _ _ _,HG5.out,HB5.out,hK5⟩
   case round=>
    clear HG5 HB5 hK5
    rename World=>wq
    obtain ⟨k,v,fs,gs,A7,c7,f,hk,rfl,rfl,hfk,HE,HKB,HA,HG,HB,hK⟩:=hrel;have HBw:=Zh (HB3.out.trans (HB.out.mono HB3.out.size));have HKX:=Zh (HKX3.out.next HB.out);have HOV:Hid (∀o,v.ownBlock=some o->w3.heap.size+1<=o/\o<wq.heap.size):=HA.out.own.lt;by_cases hlt:k<n
    ·obtain ⟨b2,o2,b,us2,eC,hb2l,hb2,hu2,hR2,hc2⟩:=HX3.out.get hlt
     subst eC;obtain ⟨A2,n2,c2,rfl,hs2⟩:=hR2;have hvb:=HV.out.t b (Yk hb2);obtain rfl:N=n2:=by rw [<- hs2.len,hvb.2.1]
     obtain ⟨f1,us1,-,hf1,hu1,hR1,hc1⟩:=HX1.out.get' (j:=k+1) (by omega);have HRF:=Zh hR1;obtain ⟨HA_,hA1,hA2,HB_,hB1_,hB2_,HC_,hC1,hC2,rfl,-,-,-⟩:=hR1;have hm1:=Yk hf1;have HTU:=Zh (HOL.out _ (zp5 hs2));have hsN:sgK t p l (k+1)=sgN (zph (fbV f p) b) (l.getD k zAZ) (l.getD (k+1) zAZ) b gs (mtB b (fbV f1 p)):=by
      have e1:t.frames.getD (k+1) ⟨[],[],[]⟩=f1:=by rw [List.getD_eq_getElem?_getD,hf1];rfl
      have e2:t.frames.getD k ⟨[],[],[]⟩=f:=by rw [List.getD_eq_getElem?_getD,hfk];rfl
      rw [sgK,HE.out,hb2,e1,e2]
     have HSN:=Zh hsN;have HNO:Hid (sgK t p l (k+1)=none->PP=(([],[]),14)):=fun h1=>by
      have h2:=zpZ h1 (n - (k+1));rw [show k+1+(n - (k+1))=n by omega] at h2;rw [HPP4.out,h2];rfl
     have t2:=hc2 0 _ rfl;rw [Nat.mul_one,Nat.add_zero] at t2;have q0:=(HBw.out.cell (p:=⟨b2,o2+k,none⟩) hb2l).trans t2;have d0:=(HBw.out.cell (p:=⟨b0,off0+(k+1)*3,none⟩) hb0l).trans (hc1 0 _ rfl);have d1:=(HBw.out.cell (p:=⟨b0,off0+(k+1)*3+1,none⟩) hb0l).trans (hc1 1 _ rfl);have d2:=(HBw.out.cell (p:=⟨b0,off0+(k+1)*3+2,none⟩) hb0l).trans (hc1 2 _ rfl);obtain ⟨p0,p1,p2,p3⟩:=HKX.out.cells4;have hkw:IntKind.i64.wrap ((k:Int)+1)=(k:Int)+1:=IntWalk.i64_in _ (by omega);have hk0:(0:Int)<=(k:Int)+1:=by omega
     have hk1:(k:Int)+1<((n+1:Nat):Int):=by omega
     have hk2:((k:Int)+1).toNat=k+1:=by omega
     have HBX1:=Zh (HBX.out _ f1 wq HBw.out (zBs _ _ _ _ HRF.out HBw.out) hm1 HPR.out);have HBT:=Zh hvb.2.2;have HV1:=Zh hvb.1;have HF1:=Zh hf1;clear hu2 hu1 hc1 hc2 hs2 hvb hb2 hm1 hsN t2 HRF hf1;go_wp2_with fail
     clear p0 p1 p2 p3 q0 d0 d1 d2;refine HBX1.out.mono ?_;rintro e w4 ⟨A5,c5,rfl,hly5,hb4⟩
     have hz4:=hb4.size;have HOV4:Hid (∀o,v.ownBlock=some o->w3.heap.size+1<=o/\o<wq.heap.size):=HOV.out;have HK5:Hid (Kq w3.heap.size G v w4 (fun W=>Sl 7 RI W A5 N c5 (fbV f1 p))):=Kq.ly hly5 (by omega) (fun o ho=>(HOV.out o ho).2);have HKB4:=Zh (HKB.out.below hb4);have HA4:=Zh (HA.out.below hb4);have HG4:=Zh (HG.out.next hb4);have HB4:=Zh (HB.out.trans (hb4.mono (by omega)));have HKT:Hid (Kq w3.heap.size G v w4 (fun W=>Sl 7 RI W A2 N c2 b)):=Kq.old HTU.out HB4.out HGL.out (by omega) (fun o ho=>(HOV.out o ho).1);have HKS:Hid (Kq w3.heap.size G v w4 (fun W=>Sl 3 RD W tA (n+1) tc l)):=Kq.old HTS.out HB4.out HGL.out (by omega) (fun o ho=>(HOV.out o ho).1);have HMT:=Zh (zn7 A2 A5 N c2 N c5 b (fbV f1 p) w4 (Gd w3.heap.size G v w4) (fun b hb=>hb.1) HKT.out HK5.out HBT.out (znr f1 p));clear hly5 hb4 HBX1 HKB HA HG HB HBw HKX HTU;go_wp2_with fail
     refine HMT.out.mono ?_;rintro e w5' ⟨A6,n6,c6,rfl,hon6,hb5'⟩
     have hz5':=hb5'.size;have HK6:Hid (Kq w3.heap.size G v w5' (fun W=>Sl 7 RI W A6 n6 c6 ((mtB b (fbV f1 p)).getD []))):=Kq.new (fun o ho=>by have:=(HOV.out o ho).2;omega) (by omega) hon6;replace HK5:=Zh (HK5.out.below hb5');replace HKT:=Zh (HKT.out.below hb5');replace HKS:=Zh (HKS.out.below hb5');have HKB5:=Zh (HKB4.out.below hb5');have HA5:=Zh (HA4.out.below hb5');have HG5:=Zh (HG4.out.next hb5');have HB5:=Zh (HB4.out.trans (hb5'.mono (by omega)));have HIN:=Zh (znl A7 A2 N c7 N c2 (fbV f p) b w5' HKB5.out.here HKT.out.here (znr f p) HBT.out);clear hon6 hb5' HMT HKB4 HA4 HG4 HB4;generalize mtB b (fbV f1 p)=o at *;cases o with
     | none=>
      have HP:Hid (PP=(([],[]),14)):=HNO.out HSN.out;have HBe:=Zh (HB3.out.trans (HB5.out.mono HB3.out.size));obtain ⟨r0,r1⟩:=(HKR3.out.next HB5.out).cells2;have f0:=(HKR3.out.next HB5.out).frozen 0;have f1:=(HKR3.out.next HB5.out).frozen 1;have HRR:=Zh (HKR3.out.next HB5.out);have HBB9:=Zh (HBe.out);go_wp2_with fail
      refine Yn (znx Tryz.results19 rfl (HRR.out.set2 _ _)) rfl ?_;rw [HP.out];exact ⟨none,0,0,none,0,0,rfl,Sl.nil _,Sl.nil _,zm9 HBB9.out (by omega) _ _⟩
     | some e6=>
      have HSN2:Hid (sgK t p l (k+1)=if zph (fbV f p) b=true then some (gs++[⟨l.getD k zAZ,l.getD (k+1) zAZ,b,e6⟩]) else none):=HSN.out;have HK6':Hid (Kq w3.heap.size G v w5' (fun W=>Sl 7 RI W A6 n6 c6 e6)):=HK6.out;clear HSN HK6;go_wp2_with fail
      refine HIN.out.mono ?_;rintro e w6 ⟨rfl,hb6⟩
      have hz6:=hb6.size;replace HK5:=Zh (HK5.out.below hb6);replace HKT:=Zh (HKT.out.below hb6);replace HKS:=Zh (HKS.out.below hb6);have HK6:=Zh (HK6'.out.below hb6);have HA6:=Zh (HA5.out.below hb6);have HG6:=Zh (HG5.out.next hb6);have HB6:=Zh (HB5.out.trans (hb6.mono (by omega)));clear hb6 HIN HKB5 HA5 HG5 HB5 HK6';generalize zph (fbV f p) b=bi at *;cases bi
      ·have HP:Hid (PP=(([],[]),14)):=HNO.out HSN2.out
       have HBe:=Zh (HB3.out.trans (HB6.out.mono HB3.out.size));obtain ⟨r0,r1⟩:=(HKR3.out.next HB6.out).cells2;have f0:=(HKR3.out.next HB6.out).frozen 0;have f1:=(HKR3.out.next HB6.out).frozen 1;have HRR:=Zh (HKR3.out.next HB6.out);have HBB9:=Zh (HBe.out);go_wp2_with fail
       refine Yn (znx Tryz.results19 rfl (HRR.out.set2 _ _)) rfl ?_;rw [HP.out];exact ⟨none,0,0,none,0,0,rfl,Sl.nil _,Sl.nil _,zm9 HBB9.out (by omega) _ _⟩
      ·have HSN3:Hid (sgK t p l (k+1)=some (gs++[⟨l.getD k zAZ,l.getD (k+1) zAZ,b,e6⟩])):=HSN2.out
       clear HSN2 HNO;obtain ⟨bt,ot,a,ua,eA,hbtl,hGt,ha,hua,hca,hona⟩:=zOe HKS.out (by omega) zp7 (show k<n+1 by omega);subst eA;obtain ⟨bt',ot',g,ug,eA',hbtl',hGt',hg,hug,hcg,hong⟩:=zOe HKS.out (by omega) zp7 (show k+1<n+1 by omega);obtain ⟨rfl,rfl⟩:bt=bt'/\ot=ot':=by simpa using eA'
       obtain ⟨aA,an,ac,rfl,hsa⟩:=zQg hona (Ya _);obtain ⟨gA,gn,gc,rfl,hsg⟩:=zQg hong (Ya _);have hla:l.getD k zAZ=a:=by rw [List.getD_eq_getElem?_getD,ha];rfl
       have hlg:l.getD (k+1) zAZ=g:=by rw [List.getD_eq_getElem?_getD,hg];rfl
       rw [hla,hlg] at HSN3;have HSA:Hid (Kq w3.heap.size G v w6 (fun W=>SL W aA an ac a.l)):=hsa;have HSG:Hid (Kq w3.heap.size G v w6 (fun W=>SL W gA gn gc g.l)):=hsg;have hfl:fs.length<=2000:=by have h1:=HA6.out.len;have h2:=zpq k gs HE.out;omega
       have htcap:=(HKS.out.here).cap;have htmax:=(HKS.out.here).max;obtain ⟨vA,vn,vlc,rfl⟩:=zED HA6.out.own;have x0:=hca 0 _ rfl;have x1:=hca 1 _ rfl;have x2:=hca 2 _ rfl;have y0:=hcg 0 _ rfl;have y1:=hcg 1 _ rfl;have y2:=hcg 2 _ rfl;simp only [Nat.add_zero] at x0 y0;have HCL:=Zh (fun W (hW:Kq w3.heap.size G (.slice vA vn vlc) W (fun W=>Sl 7 RI W A2 N c2 b))=>zoa A2 N c2 b W (Gd w3.heap.size G (.slice vA vn vlc) W) (fun b hb=>hb.1) hW (by have:=zpK HV1.out;have:=hW.here.len;omega) (by have:=HV.out.small;omega));obtain ⟨s0,s1⟩:=HG6.out.cells2;have hB:=zBw w6;have hkn:(k:Int)<(n:Int)+1:=by omega
       have HCX:=Zh (And.intro x0 (And.intro x1 (And.intro x2 (And.intro y0 (And.intro y1 y2)))));clear ha hg hua hug hca hcg hona hong hsa hsg hla hlg eA' HKS x0 x1 x2 y0 y1 y2 hGt' hbtl';go_wp2_with fail
       clear s0 s1;have hzd:w6.heap.size<=w6.drew.heap.size:=hB.size;replace HSA:=Zh (HSA.out.below hB);replace HSG:=Zh (HSG.out.below hB);replace HK6:=Zh (HK6.out.below hB);replace HK5:=Zh (HK5.out.below hB);replace HKT:=Zh (HKT.out.below hB);replace HA6:=Zh (HA6.out.below hB);replace HG6:=Zh (HG6.out.next hB);replace HB6:=Zh (HB6.out.trans (hB.mono (by omega)));have hH:(fun W=>(W.cell? ⟨bt,ot+k*3,none⟩=some (.bool a.neg)/\W.cell? ⟨bt,ot+k*3+1,none⟩=some (.slice aA an ac)/\W.cell? ⟨bt,ot+k*3+2,none⟩=some (.int .i64 a.e)/\W.cell? ⟨bt,ot+(k+1)*3,none⟩=some (.bool g.neg)/\W.cell? ⟨bt,ot+(k+1)*3+1,none⟩=some (.slice gA gn gc)/\W.cell? ⟨bt,ot+(k+1)*3+2,none⟩=some (.int .i64 g.e))/\Blk W w3.heap.size 58 #[.slice A8 N c8,.slice vA vn vlc]) w6.drew:=⟨⟨(hB.cell (p:=⟨bt,ot+k*3,none⟩) hbtl).trans HCX.out.1,(hB.cell (p:=⟨bt,ot+k*3+1,none⟩) hbtl).trans HCX.out.2.1,(hB.cell (p:=⟨bt,ot+k*3+2,none⟩) hbtl).trans HCX.out.2.2.1,(hB.cell (p:=⟨bt,ot+(k+1)*3,none⟩) hbtl).trans HCX.out.2.2.2.1,(hB.cell (p:=⟨bt,ot+(k+1)*3+1,none⟩) hbtl).trans HCX.out.2.2.2.2.1,(hB.cell (p:=⟨bt,ot+(k+1)*3+2,none⟩) hbtl).trans HCX.out.2.2.2.2.2⟩,HG6.out⟩;have HCE:=Zh (fun (W:World) (h:(fun W=>(W.cell? ⟨bt,ot+k*3,none⟩=some (.bool a.neg)/\W.cell? ⟨bt,ot+k*3+1,none⟩=some (.slice aA an ac)/\W.cell? ⟨bt,ot+k*3+2,none⟩=some (.int .i64 a.e)/\W.cell? ⟨bt,ot+(k+1)*3,none⟩=some (.bool g.neg)/\W.cell? ⟨bt,ot+(k+1)*3+1,none⟩=some (.slice gA gn gc)/\W.cell? ⟨bt,ot+(k+1)*3+2,none⟩=some (.int .i64 g.e))/\Blk W w3.heap.size 58 #[.slice A8 N c8,.slice vA vn vlc]) W)=>And.intro h.1 h.2.cells2);refine zmj (fun j=>(18::[]).contains j) (fun W=>(W.cell? ⟨bt,ot+k*3,none⟩=some (.bool a.neg)/\W.cell? ⟨bt,ot+k*3+1,none⟩=some (.slice aA an ac)/\W.cell? ⟨bt,ot+k*3+2,none⟩=some (.int .i64 a.e)/\W.cell? ⟨bt,ot+(k+1)*3,none⟩=some (.bool g.neg)/\W.cell? ⟨bt,ot+(k+1)*3+1,none⟩=some (.slice gA gn gc)/\W.cell? ⟨bt,ot+(k+1)*3+2,none⟩=some (.int .i64 g.e))/\Blk W w3.heap.size 58 #[.slice A8 N c8,.slice vA vn vlc]) (by kernel_rfl) ?_;have hbtd:bt<w6.drew.heap.size:=Yh hbtl hzd;have hKd:w3.heap.size+1<=w6.drew.heap.size:=by omega
       have hOVd:∀o,(Value.slice vA vn vlc).ownBlock=some o->o<w6.drew.heap.size:=fun o ho=>by have:=(HOV4.out o ho).2;omega
       clear hB;generalize w6.drew=Wd at *;refine tkn 0 [] HCE.out hH ?_;refine tkn 1 [] HCE.out hH ?_;refine tkn 2 [] HCE.out hH ?_;refine tkn 3 [] HCE.out hH ?_;refine tkn 4 [] HCE.out hH ?_;refine tkn 5 [] HCE.out hH ?_;refine tkn 6 [] HCE.out hH ?_;refine tkn 7 [] HCE.out hH ?_;refine tkn 8 [] HCE.out hH ?_;refine tkn 9 [] HCE.out hH ?_;refine tkn 10 [] HCE.out hH ?_;refine tkn 11 [] HCE.out hH ?_;refine tkn 13 [] HCE.out hH ?_;simp only [Act.put,sT,sZ,sS];refine rdn 12 (fun K hK=>?_)
       go_simp
       refine (HCL.out Wd HKT.out).mono ?_;rintro e9 Wc ⟨A9,c9,rfl,hon9,hc⟩
       have hzc:=hc.size;have HK9:Hid (Kq w3.heap.size G (.slice vA vn vlc) Wc (fun W=>Sl 7 RI W A9 N c9 b)):=Kq.new hOVd (by omega) hon9;replace HSA:=Zh (HSA.out.below hc);replace HSG:=Zh (HSG.out.below hc);replace HK6:=Zh (HK6.out.below hc);replace HK5:=Zh (HK5.out.below hc);replace HKT:=Zh (HKT.out.below hc);replace HA6:=Zh (HA6.out.below hc);replace HG6:=Zh (HG6.out.next hc);replace HB6:=Zh (HB6.out.trans (hc.mono (by omega)));have hH2:(fun W=>(W.cell? ⟨bt,ot+k*3,none⟩=some (.bool a.neg)/\W.cell? ⟨bt,ot+k*3+1,none⟩=some (.slice aA an ac)/\W.cell? ⟨bt,ot+k*3+2,none⟩=some (.int .i64 a.e)/\W.cell? ⟨bt,ot+(k+1)*3,none⟩=some (.bool g.neg)/\W.cell? ⟨bt,ot+(k+1)*3+1,none⟩=some (.slice gA gn gc)/\W.cell? ⟨bt,ot+(k+1)*3+2,none⟩=some (.int .i64 g.e))/\Blk W w3.heap.size 58 #[.slice A8 N c8,.slice vA vn vlc]) Wc:=⟨⟨(hc.cell (p:=⟨bt,ot+k*3,none⟩) hbtd).trans hH.1.1,(hc.cell (p:=⟨bt,ot+k*3+1,none⟩) hbtd).trans hH.1.2.1,(hc.cell (p:=⟨bt,ot+k*3+2,none⟩) hbtd).trans hH.1.2.2.1,(hc.cell (p:=⟨bt,ot+(k+1)*3,none⟩) hbtd).trans hH.1.2.2.2.1,(hc.cell (p:=⟨bt,ot+(k+1)*3+1,none⟩) hbtd).trans hH.1.2.2.2.2.1,(hc.cell (p:=⟨bt,ot+(k+1)*3+2,none⟩) hbtd).trans hH.1.2.2.2.2.2⟩,HG6.out⟩;have hbtc:bt<Wc.heap.size:=by omega
       clear hc hon9 hH HKT;go_wp2_with fail
       refine hK.out _ _ (fun _=>hH2) ?_;clear hK K;have hH:=hH2;refine tkn 14 [] HCE.out hH ?_;simp only [Act.put,sT,sZ,sS];refine rdn 15 (fun K hK=>?_)
       go_simp
       have hc:=zAE Wc (.cells #[.bool a.neg,.slice aA an ac,.int .i64 a.e,.bool g.neg,.slice gA gn gc,.int .i64 g.e,.slice A9 N c9,.slice A6 n6 c6] 67);have HNB:Hid (Blk (Wc.alloc (.cells #[.bool a.neg,.slice aA an ac,.int .i64 a.e,.bool g.neg,.slice gA gn gc,.int .i64 g.e,.slice A9 N c9,.slice A6 n6 c6] 67)) Wc.heap.size 67 #[.bool a.neg,.slice aA an ac,.int .i64 a.e,.bool g.neg,.slice gA gn gc,.int .i64 g.e,.slice A9 N c9,.slice A6 n6 c6]):=Blk.new _ _ _;have hze:=hc.size;replace HSA:=Zh (HSA.out.below hc);replace HSG:=Zh (HSG.out.below hc);replace HK6:=Zh (HK6.out.below hc);replace HK5:=Zh (HK5.out.below hc);replace HA6:=Zh (HA6.out.below hc);replace HK9:=Zh (HK9.out.below hc);replace HG6:=Zh (HG6.out.next hc);replace HB6:=Zh (HB6.out.trans (hc.mono (by omega)));have hH3:(fun W=>(W.cell? ⟨bt,ot+k*3,none⟩=some (.bool a.neg)/\W.cell? ⟨bt,ot+k*3+1,none⟩=some (.slice aA an ac)/\W.cell? ⟨bt,ot+k*3+2,none⟩=some (.int .i64 a.e)/\W.cell? ⟨bt,ot+(k+1)*3,none⟩=some (.bool g.neg)/\W.cell? ⟨bt,ot+(k+1)*3+1,none⟩=some (.slice gA gn gc)/\W.cell? ⟨bt,ot+(k+1)*3+2,none⟩=some (.int .i64 g.e))/\Blk W w3.heap.size 58 #[.slice A8 N c8,.slice vA vn vlc]) (Wc.alloc (.cells #[.bool a.neg,.slice aA an ac,.int .i64 a.e,.bool g.neg,.slice gA gn gc,.int .i64 g.e,.slice A9 N c9,.slice A6 n6 c6] 67)):=⟨⟨(hc.cell (p:=⟨bt,ot+k*3,none⟩) hbtc).trans hH2.1.1,(hc.cell (p:=⟨bt,ot+k*3+1,none⟩) hbtc).trans hH2.1.2.1,(hc.cell (p:=⟨bt,ot+k*3+2,none⟩) hbtc).trans hH2.1.2.2.1,(hc.cell (p:=⟨bt,ot+(k+1)*3,none⟩) hbtc).trans hH2.1.2.2.2.1,(hc.cell (p:=⟨bt,ot+(k+1)*3+1,none⟩) hbtc).trans hH2.1.2.2.2.2.1,(hc.cell (p:=⟨bt,ot+(k+1)*3+2,none⟩) hbtc).trans hH2.1.2.2.2.2.2⟩,HG6.out⟩;have HRG:Hid (Kq w3.heap.size G (.slice vA vn vlc) (Wc.alloc (.cells #[.bool a.neg,.slice aA an ac,.int .i64 a.e,.bool g.neg,.slice gA gn gc,.int .i64 g.e,.slice A9 N c9,.slice A6 n6 c6] 67)) (fun W=>RG W [.bool a.neg,.slice aA an ac,.int .i64 a.e,.bool g.neg,.slice gA gn gc,.int .i64 g.e,.slice A9 N c9,.slice A6 n6 c6] ⟨a,g,b,e6⟩)):=fun W h1 h2=>⟨aA,an,ac,gA,gn,gc,A9,N,c9,A6,n6,c6,rfl,HSA.out W h1 h2,HSG.out W h1 h2,HK9.out W h1 h2,HK6.out W h1 h2⟩
       clear hc hH hH2 HSA HSG HK9 HK6;refine hK.out _ _ (fun _=>hH3) ?_;clear hK K;generalize (Wc.alloc (.cells #[.bool a.neg,.slice aA an ac,.int .i64 a.e,.bool g.neg,.slice gA gn gc,.int .i64 g.e,.slice A9 N c9,.slice A6 n6 c6] 67))=Wz at *;refine rdn 16 (fun K hK=>?_);refine zmW rfl _ _ 56 rfl 67 8 128 _ zqJ rfl (by omega) (by omega) Tryz.underlying56 (w3.heap.size+1) (.slice vA vn vlc) fs rfl HA6.out.own ⟨Wc.heap.size,0,none⟩ 1 [.bool a.neg,.slice aA an ac,.int .i64 a.e,.bool g.neg,.slice gA gn gc,.int .i64 g.e,.slice A9 N c9,.slice A6 n6 c6] rfl rfl ?c1 ?c2 ?c3 ?c4 ?_
       case c1=>
        intro j u hj;rw [zEM,Blk.cell HNB.out]
        simpa using hj
       case c2=>intro u hu;simp at hu;rcases hu with rfl | rfl | rfl | rfl | rfl | rfl | rfl | rfl <;> rfl
       case c3=>omega
       case c4=>omega
       intro v' w7 q2 q3 q5;obtain ⟨vB,vm,vmc,rfl⟩:=zED (HA6.out.next (fun b hb=>by have:=HGL.out b hb;omega) q2 q3 q5 rfl HRG.out).own;have hov:∀b,b<Wz.heap.size->b<w3.heap.size+1->w7.heap[b]? = Wz.heap[b]?:=fun b hb hb2=>q3.block b hb (fun e=>by have:=(HA6.out.own.lt b e.symm).1;omega)
       have hbo:=q3.block bt (by omega) (fun e=>hGt.2.2 e.symm);have HA7:=Zh (HA6.out.next (fun b hb=>by have:=HGL.out b hb;omega) q2 q3 q5 rfl HRG.out);have HK7:=Zh (HK5.out.grown q3 q5);have HB7:=Zh (HB6.out.trans ((Yp w3.heap.size Wz).grown q3 (by omega) (fun k hk=>by have:=(HA6.out.own.lt k hk).1;omega)));have hG7:Blk w7 w3.heap.size 58 #[.slice A8 N c8,.slice vA vn vlc]:=(hov _ (by omega) (by omega)).trans HG6.out;have hcm:∀i,w7.cell? ⟨bt,i,none⟩=Wz.cell? ⟨bt,i,none⟩:=fun i=>World.cell?_of_block (w:=Wz) (a:=⟨bt,i,none⟩) hbo
       have hH4:(fun W=>(W.cell? ⟨bt,ot+k*3,none⟩=some (.bool a.neg)/\W.cell? ⟨bt,ot+k*3+1,none⟩=some (.slice aA an ac)/\W.cell? ⟨bt,ot+k*3+2,none⟩=some (.int .i64 a.e)/\W.cell? ⟨bt,ot+(k+1)*3,none⟩=some (.bool g.neg)/\W.cell? ⟨bt,ot+(k+1)*3+1,none⟩=some (.slice gA gn gc)/\W.cell? ⟨bt,ot+(k+1)*3+2,none⟩=some (.int .i64 g.e))/\Blk W w3.heap.size 58 #[.slice A8 N c8,.slice vA vn vlc]) w7:=⟨⟨(hcm _).trans hH3.1.1,(hcm _).trans hH3.1.2.1,(hcm _).trans hH3.1.2.2.1,(hcm _).trans hH3.1.2.2.2.1,(hcm _).trans hH3.1.2.2.2.2.1,(hcm _).trans hH3.1.2.2.2.2.2⟩,hG7⟩;have hz7:=q3.size;refine hK.out _ _ (fun _=>hH4) ?_;clear hK K hH3 hov hcm hbo HK5 HA6 HG6 HB6 HRG q2 q3 q5;simp only [Act.put,sT,sZ,sS];have hH:=hH4;refine tkn 17 [] HCE.out hH ?_;simp only [Act.put,sT,sZ,sS];refine rdn 18 (fun K hK=>?_);obtain ⟨s0,s1⟩:=hG7.cells2;have g1:=hG7.frozen 1
       go_simp
       clear s0 s1 g1;refine hK.out _ _ (fun h=>absurd h (by decide)) ?_;clear hK K;have HG8:Hid (Blk (w7.setCell ⟨w3.heap.size,1,none⟩ (.slice vB vm vmc)) w3.heap.size 58 #[.slice A8 N c8,.slice vB vm vmc]):=hG7.set_ 1 (.slice vB vm vmc);have HK8:=Zh (HK7.out.set HGL.out 1 (.slice vB vm vmc));have HA8:=Zh (zpI HA7.out HGL.out 1 (.slice vB vm vmc));have HB8:=Zh (HB7.out.setCell (p:=⟨w3.heap.size,1,none⟩) (Ya _) (.slice vB vm vmc));have hz8:(w7.setCell ⟨w3.heap.size,1,none⟩ (.slice vB vm vmc)).heap.size=w7.heap.size:=by simp [World.setCell]
       have hz8':=Ys hz8.symm;clear hG7 hH4 hH HK7 HA7 HB7 hz8;generalize (w7.setCell ⟨w3.heap.size,1,none⟩ (.slice vB vm vmc))=w8 at *;refine zmi (by kernel_rfl) ?_ _;go_wp2_with fail
       go_roundw
       case rel=>exact ⟨k+1,_,_,_,A5,c5,f1,by omega,by go_num,rfl,HF1.out,HSN3.out,HK8.out,HA8.out,HG8.out,HB8.out,by omega⟩
       case measure=>simp [intOf];omega
    ·obtain rfl:n=k:=by omega
     have HP:Hid (PP=((fbV f0 p,gs),0)):=by unfold Hid;rw [HPP4.out,HE.out];rfl
     obtain ⟨LA,lc,rfl,-,hon⟩:=HA.out.on;have HSG:=Zh (On.imp hon (fun W h=>h));have HST:=Zh ((HLY8.out.on).move (w':=wq) (fun b hb=>HB.out.block b hb.2));have kr:=HKR3.out.next HB.out;obtain ⟨r0,r1⟩:=kr.cells2;have f0':=kr.frozen 0;have f1':=kr.frozen 1;have HRR:=Zh kr;obtain ⟨s0,s1⟩:=HG.out.cells2;clear hon kr;go_wp2_with fail
     refine Yn (znx Tryz.results19 rfl (HRR.out.set2 _ _)) rfl ?_;rw [HP.out];have hse:((wq.setCell ⟨w.heap.size+1,0,none⟩ (.slice A8 N c8)).setCell ⟨w.heap.size+1,1,none⟩ (.slice LA gs.length lc)).heap.size=wq.heap.size:=by simp [World.setCell]
     have hmv:∀b,b≠w.heap.size+1->((wq.setCell ⟨w.heap.size+1,0,none⟩ (.slice A8 N c8)).setCell ⟨w.heap.size+1,1,none⟩ (.slice LA gs.length lc)).heap[b]? = wq.heap[b]?:=fun b hb=>(Yl _ _ _ _ hb).trans (Yl _ _ _ _ hb)
     refine ⟨A8,N,c8,LA,_,lc,rfl,(HST.out.move (fun b hb=>hmv b (by have:=hb.1;omega))).here (by rw [hse];have:=HB.out.size;omega),(HSG.out.move (fun b hb=>hmv b (by
      rcases hb.2 with h | h
      ·exact HGR.out b h
      ·omega))).here (by rw [hse];exact Ya _),zm9 HBw.out (by omega) _ _⟩
theorem znI (d:Dy):zCH d d=0:=by
 unfold zCH
 split
 ·rw [if_neg (by omega),if_neg (by omega)]
  split
  ·rfl
  ·simp [zHh,zCT]
 ·rfl
theorem znm {x:Iv}(h:ivV x=true):ivE x x=true:=by
 unfold ivE ins;rw [h,znI,znI];cases x.all <;> rfl
theorem zpd (a b:Dy):mrD a b=a\/mrD a b=b:=by unfold mrD;split;exact .inl rfl;exact .inr rfl
theorem zpc (a b:Dy):lsD a b=a\/lsD a b=b:=by unfold lsD;split;exact .inl rfl;exact .inr rfl
theorem zpR {x y z:Iv}(h:znc x y=some z) (hx:BdI x) (hy:BdI y):ivV z=true/\BdI z:=by
 unfold znc at h
 split at h
 ·rename_i hv
  rw [Yi] at hv
  split at h
  ·injection h with h
   subst h;exact ⟨hv.2,hy⟩
  ·rename_i hxa
   split at h
   ·injection h with h
    subst h;exact ⟨hv.1,hx⟩
   ·rename_i hya
    split at h
    ·cases h
    ·rename_i hc
     injection h with h
     subst h;have e1:vld x.lo=true/\vld x.hi=true:=by
      have h:=hv.1;unfold ivV at h;rw [if_neg hxa,Yi,Yi] at h;exact h.1
     have e2:vld y.lo=true/\vld y.hi=true:=by
      have h:=hv.2;unfold ivV at h;rw [if_neg hya,Yi,Yi] at h;exact h.1
     have k1:vld (mrD x.lo y.lo)=true:=by rcases zpd x.lo y.lo with h | h <;> rw [h];exact e1.1;exact e2.1
     have k2:vld (lsD x.hi y.hi)=true:=by rcases zpc x.hi y.hi with h | h <;> rw [h];exact e1.2;exact e2.2
     refine ⟨?_,?_,?_⟩
     ·unfold ivV
      rw [if_neg Bool.false_ne_true]
      show (vld (mrD x.lo y.lo) && vld (lsD x.hi y.hi) && decide (zCH (mrD x.lo y.lo) (lsD x.hi y.hi)<=0))=true
      rw [k1,k2,Yf (by omega)];rfl
     ·show Bd (mrD x.lo y.lo)
      rcases zpd x.lo y.lo with h | h <;> rw [h];exact hx.1;exact hy.1
     ·show Bd (lsD x.hi y.hi)
      rcases zpc x.hi y.hi with h | h <;> rw [h];exact hx.2;exact hy.2
 ·cases h
theorem zp4 {a b:List Iv}(ha:∀x∈a,BdI x) (hb:∀x∈b,BdI x):∀ (k:Nat) (l:List Iv),mtK a b k=some l->∀z∈l,ivV z=true/\BdI z:=by
 intro k
 induction k with
 | zero=>intro l h z hz;injection h with h;subst h;cases hz
 | succ k ih=>
  intro l h z hz;unfold mtK at h
  split at h
  ·rename_i l' x y h1 h2 h3
   cases hm:znc x y with
   | none=>rw [hm] at h;cases h
   | some q=>
    rw [hm] at h;injection h with h
    subst h;rcases Yt.1 hz with hz | hz
    ·exact ih _ h1 z hz
    ·rw [List.mem_singleton.1 hz]
     exact zpR hm (ha x (Yk h2)) (hb y (Yk h3))
  ·cases h
theorem zp3 {a b l:List Iv}(ha:∀x∈a,BdI x) (hb:∀x∈b,BdI x) (h:mtB a b=some l):∀z∈l,ivV z=true/\BdI z:=by
 unfold mtB at h
 split at h
 ·exact zp4 ha hb _ _ h
 ·cases h
theorem zqP {hs:List Dy}(hh:∀h∈hs,zAV h.l):∀ (k:Nat) (l:List Dy),tmK hs k=some l->∀z∈l,zAV z.l/\Bd z:=by
 have h0:zAV zAZ.l/\Bd zAZ:=⟨fun x hx=>(by cases hx),zKg⟩;intro k
 induction k with
 | zero=>intro l h z hz;injection h with h;subst h;rw [List.mem_singleton.1 hz];exact h0
 | succ k ih=>
  intro l h z hz;unfold tmK at h
  split at h
  ·rename_i l' y h1 h2
   have hg:zAV (l'.getD k zAZ).l:=by
    rw [List.getD_eq_getElem?_getD];cases e:l'[k]? with
    | none=>exact h0.1
    | some q=>exact (ih _ h1 q (Yk e)).1
   split at h
   ·rename_i he
    injection h with h
    subst h;rcases Yt.1 hz with hz | hz
    ·exact ih _ h1 z hz
    ·rw [List.mem_singleton.1 hz]
     have hz2:zCP (l'.getD k zAZ) y=((zCP (l'.getD k zAZ) y).1,0):=Prod.ext rfl he;have ho:=zFp hg (hh y (Yk h2)) hz2;exact ⟨ho.2.2.2.1,Yq (zDE ho.2.2.1) (by omega)⟩
   ·cases h
  ·cases h
structure SgO (g:Sg):Prop where
 a:Bd g.a
 b:Bd g.b
 t:∀x∈g.tube,ivV x=true/\BdI x
 e:∀x∈g.e,ivV x=true/\BdI x
theorem zqN {t:Tk}{n N:Nat}{p:Int}{ts:List Dy}(hv:TkV t n N) (ht:∀z∈ts,Bd z):∀ (k:Nat) (l:List Sg),sgK t p ts k=some l->∀g∈l,SgO g:=by
 have hg:∀k,Bd (ts.getD k zAZ):=fun k=>by
  rw [List.getD_eq_getElem?_getD];cases e:ts[k]? with
  | none=>exact zKg
  | some q=>exact ht q (Yk e)
 intro k
 induction k with
 | zero=>intro l h z hz;injection h with h;subst h;cases hz
 | succ k ih=>
  intro l h z hz;unfold sgK at h
  split at h
  ·rename_i l' b h1 h2
   unfold sgN at h
   split at h
   ·cases h
   ·rename_i e he
    split at h
    ·injection h with h
     subst h;rcases Yt.1 hz with hz | hz
     ·exact ih _ h1 z hz
     ·rw [List.mem_singleton.1 hz]
      have hb:=hv.t b (Yk h2);exact ⟨hg _,hg _,fun x hx=>⟨(zB9 hb.1 x hx).1,hb.2.2 x hx⟩,zp3 hb.2.2 (znr _ _) he⟩
    ·cases h
  ·cases h
theorem zoG {t:Tk}{n N:Nat}{p:Int}(hv:TkV t n N) (hh:∀h∈t.steps,zAV h.l):(∀x∈(znE t p).1.1,ivV x=true/\BdI x)/\∀g∈(znE t p).1.2,SgO g:=by
 have nil:∀k:Int,(∀x∈((([],[]),k):(List Iv×List Sg)×Int).1.1,ivV x=true/\BdI x)/\∀g∈((([],[]),k):(List Iv×List Sg)×Int).1.2,SgO g:=fun k=>⟨fun x hx=>(by cases hx),fun x hx=>(by cases hx)⟩
 unfold znE
 split
 ·cases h1:tmK t.steps t.steps.length with
  | none=>exact nil 9
  | some ts=>
   unfold zpV;dsimp only
   split
   ·rename_i hb
    cases h2:sgK t p ts t.tubes.length with
    | none=>exact nil 14
    | some l=>exact ⟨fun x hx=>⟨(zB9 hb x hx).1,znr _ _ x hx⟩,zqN hv (fun z hz=>(zqP hh _ _ h1 z hz).2) _ _ h2⟩
   ·exact nil 14
 ·exact nil 1
theorem zpY {g:Sg}(h:SgO g):sgE g g=true:=by
 unfold sgE;rw [znI,znI,zGD g.tube (fun x hx=>znm (h.t x hx).1),zGD g.e (fun x hx=>znm (h.e x hx).1)];rfl
theorem zo6 {t:Tk}{n N:Nat}{p:Int}(hv:TkV t n N) (hh:∀h∈t.steps,zAV h.l):eqF ivE (znE t p).1.1 (znE t p).1.1=true/\eqF sgE (znE t p).1.2 (znE t p).1.2=true:=
 ⟨zGD _ (fun x hx=>znm ((zoG hv hh).1 x hx).1),zGD _ (fun x hx=>zpY ((zoG hv hh).2 x hx))⟩
def g61 (s:String):String:=if s = "law.go:244" then "certify.go:65" else if s = "law.go:245" then "certify.go:66" else if s = "law.go:246" then "certify.go:67" else if s = "law.go:247" then "certify.go:68" else "certify.go:70"
theorem zok (vs:List Value) (x:Ct) (w:World) (h:RC w vs x) (hl:x.links.length<=1000):Calls Tryz.prog 61 #[.agg vs.toArray] w fun e w'=>∃us:List Value,e=.returned (.agg us.toArray)/\us.length=4/\RT w' us (trP x)/\Below w.heap.size w w':=
 zqS _ Tryz.f61 g61 Tryz.func61 (by kernel_rfl) Tryz.ntmps61 Tryz.results61 vs x w h hl
end Go.Proofs.YtchkfjgcbbbffaaGreatDoor
end
