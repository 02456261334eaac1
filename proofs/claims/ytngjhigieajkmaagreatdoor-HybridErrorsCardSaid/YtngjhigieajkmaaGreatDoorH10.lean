/- Bundle 10: what the law's walk stands on: Q13, Q14, Q15, Q16, Q17. -/
import Derived.MapKept
import Derived.ChangeMaps4
import Derived.Test.YtngjhigieajkmaaGreatDoorH9
set_option maxRecDepth 100000
set_option maxHeartbeats 20000000
set_option linter.all false
noncomputable section
namespace Go.Proofs.YtngjhigieajkmaaGreatDoor
open Go.RowKit Pl
section
variable {P:Program}{G:Gl}{E:Env}{o:Oper}{a:Act}{ι:Io}{fz:Nat->Prop}{H:Hp}{n:Nat}{w:World}{T:Tm}{call:zAr}
def zGP (P:Program) (u:TypeId) (size:Nat) (bytes:Nat) (z:Array Value) (w:World) (xv:Value) (m:Nat) (news:List Value):Prop:=
 (∃k,P.underlying u=some (.int k)/\(∃k',xv=.int k' (m:Int))/\m<=16777216/\bytes<=65536/\news=(Builtin.zeroCells z m).toList/\z.size=size)\/
 (∃e,P.underlying u=some (.slice e)/\(∃A c,xv=.slice A m c)/\∀w':World,w'.heap=w.heap->(Builtin.firstCells size m xv).run P w' = .ok news.toArray w')
theorem zFk {t u e ty:TypeId}{i:TypeInfo}{z:Value}(hd:P.underlying t=some (.slice e)) (hi:P.info? e=some i) (hz:i.zero=some z) {xv:Value}{m:Nat}{news:List Value}(hx:zGP P u i.size i.bytes z.cells w xv m news)
  {ad:Addr}{sLen sCap:Nat}(hle:sLen+m<=sCap) {w1:World}(hst:(storeCells (ad.add (sLen*i.size)) news).run P w=.ok () w1) :
  (Builtin.append_ #[t,u] ty #[.slice (some ad) sLen sCap,xv]).run P w=.ok (.slice (some ad) (sLen+m) sCap) w1:=by
 rcases hx with ⟨k,hu,⟨k',rfl⟩,hm,hb,hn,hzs⟩ | ⟨e',hu,⟨A,c,rfl⟩,hf⟩
 ·have wl:IntKind.i64.wrap (m:Int)=m:=by rw [IntKind.wrap_i64];omega
  have n1:¬ ((m:Int)<0):=by omega
  have n2:¬ (281474976710656<(m:Int)*(i.bytes:Int)):=by
   have:m*i.bytes<=16777216*65536:=Nat.mul_le_mul hm hb;have:((m*i.bytes:Nat):Int)<=((16777216*65536:Nat):Int):=Int.ofNat_le.2 this;rw [Int.natCast_mul] at this;omega
  by_cases h0:m*i.size=0
  ·have hnil:news=[]:=by
    rw [hn];have:(Builtin.zeroCells z.cells m).size=0:=by simp [Builtin.zeroCells,hzs,h0]
    exact List.eq_nil_of_length_eq_zero (by simpa using this)
   subst hnil;simp [storeCells] at hst;subst hst;simp [Builtin.append_,run_underlying hd,run_underlying hu,zAj hi,zDt hi,asInt,asIntOf,wl,n1,n2,hle,h0,storeCells]
  ·have hn':Builtin.zeroCells z.cells m=news.toArray:=by rw [hn,Array.toArray_toList]
   simp [Builtin.append_,run_underlying hd,run_underlying hu,zAj hi,zDt hi,zHE hi hz,asInt,asIntOf,wl,n1,n2,hle,h0,hn',hst]
 ·simp [Builtin.append_,run_underlying hd,run_underlying hu,zAj hi,Builtin.lenOf,hle,hf w rfl,hst]
theorem zM8 {t u e ty:TypeId}{i:TypeInfo}{z:Value}(hd:P.underlying t=some (.slice e)) (hi:P.info? e=some i) (hz:i.zero=some z) {xv:Value}{m:Nat}{news:List Value}(hx:zGP P u i.size i.bytes z.cells w xv m news)
  {A:Option Addr}{sLen sCap:Nat}{olds:List Value}(hold:∀w':World,w'.heap=w.heap->(Builtin.firstCells i.size sLen (.slice A sLen sCap)).run P w' = .ok olds.toArray w')
  (hg:sCap<sLen+m) (h63:sLen+m<=1073741824) (hb:i.bytes<=65536) :
  (Builtin.append_ #[t,u] ty #[.slice A sLen sCap,xv]).run P w =
   .ok (.slice (some ⟨w.heap.size,0,none⟩) (sLen+m) (grownCap w (sLen+m) sCap e)) (w.drew.alloc (.cells (olds.toArray++news.toArray++Builtin.zeroCells z.cells (grownCap w (sLen+m) sCap e - (sLen+m))) e)):=by
 have hn:¬ (sLen+m<=sCap):=by omega
 have h63':¬ (9223372036854775807<((sLen:Int)+(m:Int))):=by omega
 have hfit:Builtin.nextslicecap (sLen+m) sCap*i.bytes<=281474976710656:=growslice_fits hg (by
  have:=Nat.mul_le_mul h63 hb;omega)
 have h48':¬ (281474976710656<Builtin.nextslicecap (sLen+m) sCap*i.bytes):=by omega
 have hfo:=hold w.drew rfl;rcases hx with ⟨k,hu,⟨k',rfl⟩,hm,hb2,hnn,hzs⟩ | ⟨e',hu,⟨A',c,rfl⟩,hf⟩
 ·have wl:IntKind.i64.wrap (m:Int)=m:=by rw [IntKind.wrap_i64];omega
  have n1:¬ ((m:Int)<0):=by omega
  have n2:¬ (281474976710656<(m:Int)*(i.bytes:Int)):=by
   have:m*i.bytes<=16777216*65536:=Nat.mul_le_mul hm hb2;have:((m*i.bytes:Nat):Int)<=((16777216*65536:Nat):Int):=Int.ofNat_le.2 this;rw [Int.natCast_mul] at this;omega
  by_cases h0:m*i.size=0
  ·have hnil:news=[]:=by
    rw [hnn];have:(Builtin.zeroCells z.cells m).size=0:=by simp [Builtin.zeroCells,hzs,h0]
    exact List.eq_nil_of_length_eq_zero (by simpa using this)
   subst hnil;simp [Builtin.append_,run_underlying hd,run_underlying hu,sizeOf,typeInfo,zeroValue,hi,hz,asInt,asIntOf,wl,n1,n2,hn,h63',h48',h0,Question.forced,hfo,newRow,grownCap]
  ·have hn':Builtin.zeroCells z.cells m=news.toArray:=by rw [hnn,Array.toArray_toList]
   simp [Builtin.append_,run_underlying hd,run_underlying hu,sizeOf,typeInfo,zeroValue,hi,hz,asInt,asIntOf,wl,n1,n2,hn,h63',h48',h0,hn',Question.forced,hfo,newRow,grownCap]
   congr 2
   apply Array.ext'
   simp [List.append_assoc]
 ·have hf2:=hf w.drew rfl
  simp [Builtin.append_,run_underlying hd,run_underlying hu,sizeOf,typeInfo,zeroValue,hi,hz,Builtin.lenOf,hn,h63',h48',Question.forced,hfo,hf2,newRow,grownCap]
  congr 2
  apply Array.ext'
  simp [List.append_assoc]
theorem zKy (w:World) (need old:Nat) (e:TypeId):need<=grownCap w need old e:=by
 unfold grownCap Question.cut;simp
theorem zDz (z:Array Value) (m:Nat):Builtin.zeroCells z m=madeCells z (m*z.size):=rfl
theorem zB1.move {G:Gl}{ι:Io}{fz:Nat->Prop}{H:Hp}{n:Nat}{w w':World}(hI:Inv G ι fz (hget H) w) (hD:zBc n H) (hfresh:ι n=none) {id b s:Nat}{hb hb':HB}(e:hget H id=some hb) (hi:ι id=some (b,s))
  (hsize:w'.heap.size=w.heap.size) (hother:∀k,k≠b->w'.heap[k]? = w.heap[k]?) (h1:w'.os=w.os) (h2:w'.tape=w.tape) (h3:w'.output=w.output)
  (hk:(∀k,fz k->w'.heap[k]? = w.heap[k]?)->zJH (fun j=>if j=n then some (b,s) else ι j) fz w' b s hb') :
  zB1 G ι fz (hget H) n w (fun j=>if j=n then some (b,s) else ι j) fz (hget ((n,hb')::zPj H id)) (n+1) w':=by
 obtain ⟨b0,s0,hi0,hn0,hk0⟩:=hI.blk id hb e;rw [hi] at hi0;injection hi0 with hi0
 injection hi0 with hb0 hs0
 subst hb0 hs0;have hext:∀i p,ι i=some p->(fun j=>if j=n then some (b,s) else ι j) i=some p:=by
  intro i p e;have:i≠n:=fun h=>by subst h;rw [hfresh] at e;cases e
  simpa [this] using e
 have hfz:∀k,fz k->w'.heap[k]? = w.heap[k]?:=fun k hk=>hother k (fun h=>hn0 (h ▸ hk))
 have hdom:∀j x,hget ((n,hb')::zPj H id) j=some x->(j=n/\x=hb')\/(j≠n/\j≠id/\hget H j=some x):=by
  intro j x ej;rw [zAY] at ej
  split at ej
  ·rename_i hj
   injection ej with ej
   exact .inl ⟨hj.symm,ej.symm⟩
  ·rename_i hj
   rw [zIh hD] at ej
   split at ej
   ·cases ej
   ·rename_i hj2
    exact .inr ⟨Ne.symm hj,hj2,ej⟩
 refine ⟨hext,fun i hi=>?_,fun _ h=>h,fun _ h=>.inl h,by omega,fun k hk hn=>hother k (fun h=>hn ⟨id,hb,s,e,h ▸ hi⟩),h1,h2,h3,?_,?_⟩
 ·have:i≠n:=by omega
  simp [this]
 ·rintro k ⟨j,x,s',ej,hj⟩
  rcases hdom j x ej with ⟨rfl,rfl⟩ | ⟨hjn,_,ey⟩
  ·simp at hj
   obtain ⟨rfl,rfl⟩:=hj;exact Or.inl ⟨id,hb,_,e,hi⟩
  ·simp only [hjn,if_false] at hj
   exact .inl ⟨j,x,s',ey,hj⟩
 ·refine ⟨fun j x ej=>?_,fun i j xi xj k s1 s2 e1 e2 e3 e4=>?_,fun k hk=>by rw [hsize];exact hI.fzlt k hk,hI.gb,G.keep w _ hI.gp fun k hk=>hfz k (hI.gb k hk)⟩
  ·rcases hdom j x ej with ⟨rfl,rfl⟩ | ⟨hjn,hjid,hx⟩
   ·exact ⟨b,s,by simp,hn0,hk hfz⟩
   ·obtain ⟨b',s',h4,h5,h6⟩:=hI.blk j x hx
    refine ⟨b',s',hext _ _ h4,h5,h6.mono hext (fun _ h=>h) hfz (hother b' (fun h=>?_))⟩;subst h;exact hjid (hI.inj j id x hb b' s' s hx e h4 hi)
  ·rcases hdom i xi e1 with ⟨rfl,rfl⟩ | ⟨hin,hiid,hxi⟩
   ·rcases hdom j xj e2 with ⟨rfl,rfl⟩ | ⟨hjn,hjid,hxj⟩
    ·rfl
    ·simp at e3
     simp only [hjn,if_false] at e4;obtain ⟨rfl,rfl⟩:=e3;exact absurd (hI.inj j id xj hb _ s2 _ hxj e e4 hi) hjid
   ·rcases hdom j xj e2 with ⟨rfl,rfl⟩ | ⟨hjn,hjid,hxj⟩
    ·simp at e4
     simp only [hin,if_false] at e3;obtain ⟨rfl,rfl⟩:=e4;exact absurd (hI.inj i id xi hb _ s1 _ hxi e e3 hi) hiid
    ·simp only [hin,if_false] at e3
     simp only [hjn,if_false] at e4;exact hI.inj i j xi xj k s1 s2 hxi hxj e3 e4
theorem zNd {t u e:Nat}{te:TI}(hd:P.underlying t=some (.slice e)) (hte:zMV P e te) (hb16:te.bytes<=65536) (hI:Inv G ι fz (hget H) w) (hD:zBc n H) {s:AV}{sv xv:Value}{new:List AV}{m:Nat}{news:List Value}{zc:Array Value}
  (hs:Rel ι fz w s sv) (hnew:zA5 ι fz w true new news) (hlen:news.length=m*te.size) (hm:0<m) (hm24:m<=16777216) (hl24:∀l,Go.Proofs.YtngjhigieajkmaaGreatDoor.lenOf s=some l->l<=16777216)
  (hap:∀i z,P.info? e=some i->i.zero=some z->zGP P u i.size i.bytes z.cells w xv m news)
  (hrun:∀y w',(Builtin.append_ #[t,u] o.type #[sv,xv]).run P w=.ok y w'->(execOp a.eval o).run P w=.ok (.value y) w') :
  zAB P G o a ι fz H n w (zMc te s new m H n):=by
 obtain ⟨i,z,d,hi,hsz,hby,hz,hzr,hzl,_,_,hde,hc⟩:=hte.ex;have hap:=hap i z hi hz;have hzs:z.cells.size=te.size:=by rw [<- Array.length_toList,<- (hzr ι fz w).len,hzl]
 have hb16':i.bytes<=65536:=by rw [hby];exact hb16
 have hzc:∀k,(Builtin.zeroCells z.cells k).toList.length=k*te.size:=by
  intro k;rw [zDz,Array.length_toList,size_madeCells,hzs]
 have grow:∀ (A:Option Addr) (sLen sCap:Nat) (old:List AV) (olds:List Value),sv=.slice A sLen sCap->sLen<=16777216->zA5 ι fz w true old olds->olds.length=sLen*te.size->
   (∀w':World,w'.heap=w.heap->(Builtin.firstCells i.size sLen (.slice A sLen sCap)).run P w' = .ok olds.toArray w')->sCap<sLen+m->
   ∀H0:Hp,H0=H->zAB P G o a ι fz H n w (.ok (.sl n 0 (Nat.add sLen m) te.size none) ((n,.cells (app old new))::H0) (Nat.succ n)):=by
  rintro A sLen sCap old olds rfl hs24 hro hlo hfo hg H0 rfl
  have hr:=zM8 (u:=u) (ty:=o.type) hd hi hz hap hfo hg (by omega) hb16';rw [zEq];refine zAB.new hI (k:=1) (vs:=olds++news) (rest:=(Builtin.zeroCells z.cells (grownCap w (sLen+m) sCap e - (sLen+m))).toList) (ty:=e)
   (u:=.slice (some ⟨w.heap.size,0,none⟩) (sLen+m) (grownCap w (sLen+m) sCap e)) ?_ (hro.append hnew) (fun ι' w' _ h _=>?_)
  ·rw [hrun _ _ hr]
   congr 2
   unfold World.alloc World.drew
   congr 2
   congr 1
   apply Array.ext'
   simp
  ·have hge:=zKy w (sLen+m) sCap e
   refine .sl n 0 _ te.size none _ _ _ h ?_ hge (fun q hq=>by cases hq) (by simpa [maxLen] using grownCap_le_maxLen w (sLen+m) sCap e (by simp only [maxLen];omega));simp only [Yu,hlo,hlen,hzc,Nat.zero_add];rw [<- Nat.add_mul,<- Nat.add_mul];exact Nat.mul_le_mul_right _ (by omega)
 unfold zMc
 split
 ·obtain rfl:=zM3 hs
  have:=grow none 0 0 [] [] rfl (by omega) (.nil _) (by simp) (fun w' _=>by simp [Builtin.firstCells]) (by omega) H rfl
  simpa [zEq] using this
 ·rename_i id off len k cap
  obtain ⟨b,s0,c,rfl,hi0,hfit,hlc,hcap,hmx0⟩:=zH9 hs;have hl24':=hl24 len rfl;cases hk:Nat.beq k te.size
  ·exact zAB.fail
  ·have hk':=Yg hk
   subst hk';dsimp only
   split
   ·rename_i cs ecs
    obtain ⟨b',s',hi',hnf,vs,rest,ty,h1,h2,h3⟩:=hI.blk id _ ecs;rw [hi0] at hi';injection hi' with hi'
    injection hi' with e1 e2
    subst e1 e2;have old_run:∀ (off':Nat) (old:List AV),off' = off->zE1 (zEJ cs off') (Nat.mul len te.size)=some old->∃olds:List Value,zA5 ι fz w true old olds/\olds.length=len*te.size/\
      ∀w':World,w'.heap=w.heap->(Builtin.firstCells i.size len (.slice (some ⟨b,off,none⟩) len c)).run P w' = .ok olds.toArray w':=by
     rintro off' old rfl ho
     have hsc:zBR H te.size len (.sl id off' len te.size cap)=some old:=by
      unfold zBR;simp only [ecs];exact ho
     obtain ⟨olds,g1,g2,g3⟩:=zC1 (P:=P) hI hsc hs;rw [hsz];exact ⟨olds,g1,g2,g3⟩
    split
    ·rename_i c0
     obtain rfl:=hcap c0 rfl;cases hle:Nat.ble (Nat.add len m) c0
     ·have hgt:c0<len+m:=by
       have:¬ len+m<=c0:=fun h=>by rw [Nat.ble_eq_true_of_le (show Nat.add len m<=c0 from h)] at hle;cases hle
       omega
      cases ho:zE1 (zEJ cs off) (Nat.mul len te.size) with
      | none=>exact zAB.fail
      | some old=>
       obtain ⟨olds,g1,g2,g3⟩:=old_run off old rfl ho;exact grow _ _ _ old olds rfl hl24' g1 g2 g3 hgt H rfl
     ·have hle':len+m<=c0:=Ym hle
      cases hst:zDY (Nat.add off (Nat.mul len te.size)) cs new with
      | none=>exact zAB.fail
      | some cs'=>
       obtain ⟨h4,rfl⟩:=zB6 hst;have hnl:=hnew.len;have hcl:=h2.len;have h4':off+len*te.size+new.length<=cs.length:=h4;have hstore:=run_storeCells_at (P:=P) b (off+len*te.size) ty news 0 (vs++rest).toArray w h1 (by simp;omega) (hnew.cells rfl);simp only [Nat.add_zero] at hstore;have hr:=zFk (u:=u) (ty:=o.type) hd hi hz hap (ad:=⟨b,off,none⟩) hle' (by rw [zBq,hsz];exact hstore);intro v H' n' er hf;injection er with e1 e2 e3
       subst e1 e2 e3;refine zBk.value (hrun _ _ hr) ⟨ι,fz,zB1.write hI ecs hi0 (by simp) (fun k hk=>setRow_other _ _ _ _ hk) rfl rfl rfl (fun hfz=>?_),?_⟩
       ·refine ⟨vs.take (off+len*te.size)++news++vs.drop (off+len*te.size+new.length),rest,ty,?_,?_,?_⟩
        ·rw [setRow_heap _ _ _ _ _ _ h1]
         congr 2
         rw [hnl];simp only [List.take_append_of_le_length (show off+len*te.size<=vs.length by omega),List.append_assoc,List.append_cancel_left_eq];rw [List.drop_append_of_le_length (by omega)]
        ·exact ((((h2.take _).append hnew).append (h2.drop _)).mono (fun _ _ h=>h) (fun _ h=>h) hfz)
        ·rw [<- h3]
         simp only [Yu,Yr,List.length_drop];omega
       ·exact .sl id off _ te.size (some c0) b _ c0 hi0 hfit hle' (fun q hq=>by injection hq with hq;exact hq.symm) hmx0
    ·cases hof:Nat.beq off 0
     ·exact zAB.fail
     ·have hof':=Yg hof
      subst hof';cases ho:zE1 cs (Nat.mul len te.size) with
      | none=>exact zAB.fail
      | some old=>
       obtain ⟨olds,g1,g2,g3⟩:=old_run 0 old rfl (by rw [zBr];exact ho);by_cases hle':len+m<=c
       ·
        obtain ⟨rfl,hol⟩:=zCe ho;have hol':(cs.take (len*te.size)).length=len*te.size:=hol;have hnl:=hnew.len;have hcl:=h2.len;have hfit2:(len+m)*te.size<=c*te.size:=Nat.mul_le_mul_right _ hle';rw [Nat.add_mul] at hfit2;rw [Yr] at hol';have hroom:len*te.size+0+news.length<=(vs++rest).toArray.size:=by rw [List.size_toArray,h3];omega
        have hstore:=run_storeCells_at (P:=P) b (len*te.size) ty news 0 (vs++rest).toArray w h1 hroom (hnew.cells rfl);simp only [Nat.add_zero] at hstore;have hr:=zFk (u:=u) (ty:=o.type) hd hi hz hap (ad:=⟨b,0,none⟩) hle' (by rw [zBq,hsz,Nat.zero_add];exact hstore);simp only [zEq];intro v H' n' er hf;injection er with e1 e2 e3
        subst e1 e2 e3;have hfn:ι n=none:=hf n (Ya _) (Nat.lt_succ_self _);have hext:∀i p,ι i=some p->(fun j=>if j=n then some (b,(vs++rest).length) else ι j) i=some p:=by
         intro i p e;have:i≠n:=fun h=>by subst h;rw [hfn] at e;cases e
         simpa [this] using e
        refine zBk.value (hrun _ _ hr) ⟨_,fz,zB1.move hI hD hfn ecs (s:=(vs++rest).length) (by rw [hi0,h3]) (by simp) (fun k hk=>setRow_other _ _ _ _ hk) rfl rfl rfl (fun hfz=>?_),?_⟩
        ·refine ⟨vs.take (len*te.size)++news,(vs++rest).drop (len*te.size+news.length),ty,?_,?_,?_⟩
         ·rw [setRow_heap _ _ _ _ _ _ h1]
          congr 2
          simp only [List.take_append_of_le_length (show len*te.size<=vs.length by omega)]
         ·exact ((h2.take _).append hnew).mono hext (fun _ h=>h) hfz
         ·simp only [Yu,Yr,List.length_drop] at h3 ⊢
          omega
        ·refine .sl n 0 _ te.size none b (vs++rest).length c (by simp) ?_ hle' (fun q hq=>by cases hq) hmx0
         rw [h3];omega
       ·
        have hgo:=grow _ _ _ old olds rfl hl24' g1 g2 g3 (by omega) H rfl;intro v H' n' er hf;injection er with e1 e2 e3
        subst e1 e2 e3;refine (hgo _ _ _ rfl hf).mono fun uu w' ⟨ι',fz',hp,hrel⟩=>⟨ι',fz',hp.sub fun j x ej=>?_,hrel⟩
        rw [zAY] at ej ⊢
        split at ej
        ·rename_i hj;rw [if_pos hj];exact ej
        ·rename_i hj
         rw [if_neg hj];rw [zIh hD] at ej
         split at ej
         ·cases ej
         ·exact ej
   ·exact zAB.fail
 ·exact zAB.fail
theorem zMN {c:Call}{x y:AV}(h:zE7 (zAf T) c.args.toList=[x,y]):∃ox oy,c.args=#[ox,oy]/\zAf T ox=x/\zAf T oy=y:=by
 rw [zCN] at h;cases hl:c.args.toList with
 | nil=>rw [hl] at h;simp at h
 | cons ox r=>cases r with
  | nil=>rw [hl] at h;simp at h
  | cons oy r=>cases r with
   | nil=>
    rw [hl] at h;simp only [List.map_cons,List.map_nil,List.cons.injEq,and_true] at h;exact ⟨ox,oy,by rw [<- Array.toArray_toList (xs:=c.args),hl],h.1,h.2⟩
   | cons=>rw [hl] at h;simp at h
theorem zQt {c:Call}(hE:zBV P E) (ho:o.op=.call c) (hcb:c.callee=.builtin .append) (hI:Inv G ι fz (hget H) w) (hD:zBc n H) (hx:∀x∈c.args.toList,Rel ι fz w (zAf T x) (a.eval x)) :
  zAB P G o a ι fz H n w (zGU E c.argTypes.toList (zE7 (zAf T) c.args.toList) H n):=by
 unfold zGU
 split
 ·rename_i s x t u e1 e2
  obtain ⟨os,ox,hargs,rfl,rfl⟩:=zMN e1;have hs:=hx os (by rw [hargs];simp);have hxx:=hx ox (by rw [hargs];simp);have htypes:c.argTypes=#[t,u]:=by rw [<- Array.toArray_toList (xs:=c.argTypes),e2]
  have hrun:∀y w',(Builtin.append_ #[t,u] o.type #[a.eval os,a.eval ox]).run P w=.ok y w'->(execOp a.eval o).run P w=.ok (.value y) w':=by
   intro y w' hy;simp only [execOp,ho,resolve,hcb,Sem.run_bind,Sem.run_pure,Result.andThen_ok,invoke,builtin,htypes,hargs,List.map_toArray,List.map_cons,List.map_nil,hy]
  refine zCc hE fun e te hd hte=>zAd hE fun tu htu=>?_
  obtain ⟨i,z,d,hi,hsz,hby,hz,hzr,hzl,_,_,hde,hc⟩:=hte.ex;obtain ⟨_,_,du,_,_,_,_,_,_,_,_,hdu,hcu⟩:=htu.ex;have hzs:z.cells.size=te.size:=by rw [<- Array.length_toList,<- (hzr ι fz w).len,hzl]
  cases hcond:Bool.and (Nat.ble te.bytes 65536) (match Go.Proofs.YtngjhigieajkmaaGreatDoor.lenOf (zAf T os) with | some l=>Nat.ble l 16777216 | none=>false)
  ·exact zAB.fail
  ·simp only [Yi] at hcond
   have hb16:te.bytes<=65536:=Ym hcond.1;have hl24:∀l,Go.Proofs.YtngjhigieajkmaaGreatDoor.lenOf (zAf T os)=some l->l<=16777216:=by
    intro l hl;have:=hcond.2;rw [hl] at this;exact Ym this
   have hsome:∃l,Go.Proofs.YtngjhigieajkmaaGreatDoor.lenOf (zAf T os)=some l:=by
    cases hl:Go.Proofs.YtngjhigieajkmaaGreatDoor.lenOf (zAf T os) with
    | none=>have:=hcond.2;rw [hl] at this;cases this
    | some l=>exact ⟨l,rfl⟩
   obtain ⟨sl,hsl⟩:=hsome;obtain ⟨A,cc,hsv,hsc⟩:=zE6 hsl hs;have nothing:∀ (news:List Value),(∀i z,P.info? e=some i->i.zero=some z->zGP P u i.size i.bytes z.cells w (a.eval ox) 0 news)->news=[]->zAB P G o a ι fz H n w (.ok (zAf T os) H n):=by
    rintro news hap rfl
    refine zAB.same hI (hrun _ _ ?_) hs;have hap:=hap i z hi hz;rw [hsv];cases A with
    | some ad=>
     have:=zFk (u:=u) (ty:=o.type) hd hi hz hap (ad:=ad) (sLen:=sl) (sCap:=cc) (by omega) (w1:=w) (by simp [storeCells])
     simpa using this
    | none=>
     rcases hap with ⟨k,hu,⟨k',hk'⟩,hm,hb,hn,hzs'⟩ | ⟨e',hu,⟨A',c',hk'⟩,hf⟩
     ·rw [hk']
      have wl:IntKind.i64.wrap 0=0:=by rw [IntKind.wrap_i64];omega
      simp [Builtin.append_,run_underlying hd,run_underlying hu,zAj hi,zDt hi,asInt,asIntOf,wl,hsc]
      try omega
     ·rw [hk'] at hf ⊢
      simp [Builtin.append_,run_underlying hd,run_underlying hu,zAj hi,Builtin.lenOf,hsc,hf w rfl]
   split
   ·rename_i k hck
    rw [hck] at hcu;simp only [zGS] at hcu;subst hcu;cases hn:nat? (zAf T ox) with
    | none=>exact zAB.fail
    | some m=>
     obtain ⟨k',hk'⟩:=zFf hn hxx;dsimp only;have hap:m<=16777216->∀i z,P.info? e=some i->i.zero=some z->zGP P u i.size i.bytes z.cells w (a.eval ox) m (Builtin.zeroCells z.cells m).toList:=by
      intro hm i' z' hi' hz';rw [hi] at hi';injection hi' with hi'
      subst hi';rw [hz] at hz';injection hz' with hz'
      subst hz';exact .inl ⟨k,hdu,⟨k',hk'⟩,hm,by rw [hby];exact hb16,rfl,by rw [hzs,hsz]⟩
     cases h0:Nat.beq m 0
     ·cases hm:Nat.ble m 16777216
      ·exact zAB.fail
      ·have hm':=Ym hm
       have hpos:0<m:=by
        rcases Xm m with e | e
        ·subst e;cases h0
        ·exact e
       have hap':=hap hm';refine zNd (zc:=#[]) hd hte hb16 hI hD hs (news:=(Builtin.zeroCells z.cells m).toList) ?_ ?_ hpos hm' hl24 ?_ hrun
       ·rw [zDz];exact zFD (hzr ι fz w) m
       ·rw [zDz,Array.length_toList,size_madeCells,hzs]
       ·intro i' z' hi' hz'
        have h1:=hap' i' z' hi' hz';rw [hi] at hi';injection hi' with hi'
        subst hi';rw [hz] at hz';injection hz' with hz'
        subst hz';exact h1
     ·have:=Yg h0
      subst this;refine nothing _ (fun i' z' hi' hz'=>?_) rfl;have h1:=hap (by omega) i' z' hi' hz'
      simpa [Builtin.zeroCells] using h1
   ·rename_i e' hce
    rw [hce] at hcu;simp only [zGS] at hcu;subst hcu;cases hn:Go.Proofs.YtngjhigieajkmaaGreatDoor.lenOf (zAf T ox) with
    | none=>exact zAB.fail
    | some m=>
     obtain ⟨A2,c2,hxv,_⟩:=zE6 hn hxx;dsimp only;cases h0:Nat.beq m 0
     ·cases hm:Nat.ble m 16777216
      ·exact zAB.fail
      ·cases hsc2:zBR H te.size m (zAf T ox) with
       | none=>exact zAB.fail
       | some new=>
        have hm':=Ym hm;have hpos:0<m:=by
         rcases Xm m with e | e
         ·subst e;cases h0
         ·exact e
        obtain ⟨news,g1,g2,g3⟩:=zC1 (P:=P) hI hsc2 hxx;refine zNd (zc:=#[]) hd hte hb16 hI hD hs g1 g2 hpos hm' hl24 (fun i' z' hi' hz'=>?_) hrun;rw [hi] at hi';injection hi' with hi'
        subst hi';rw [hsz];exact .inr ⟨e',hdu,⟨A2,c2,hxv⟩,g3⟩
     ·have:=Yg h0
      subst this;refine nothing [] (fun i' z' hi' hz'=>.inr ⟨e',hdu,⟨A2,c2,hxv⟩,fun w' hw'=>?_⟩) rfl;rw [hxv];cases A2 with
      | none=>simp [Builtin.firstCells]
      | some ad=>simp [Builtin.firstCells,loadCells,loadCellsFrom]
   ·exact zAB.fail
 ·exact zAB.fail
theorem zVY {c:Call}(hE:zBV P E) (ho:o.op=.call c) (hcb:c.callee=.builtin .copy) (hI:Inv G ι fz (hget H) w) (hx:∀x∈c.args.toList,Rel ι fz w (zAf T x) (a.eval x)) :
  zAB P G o a ι fz H n w (zNf E c.argTypes.toList (zE7 (zAf T) c.args.toList) H n):=by
 unfold zNf
 split
 ·rename_i id off len k cap s t u e1 e2
  obtain ⟨od,os,hargs,h1,rfl⟩:=zMN e1;have hd':=hx od (by rw [hargs];simp);have hs:=hx os (by rw [hargs];simp);rw [h1] at hd';have htypes:c.argTypes=#[t,u]:=by rw [<- Array.toArray_toList (xs:=c.argTypes),e2]
  obtain ⟨b,s0,cc,hdv,hi0,hfit,hlc,hcap,_⟩:=zH9 hd';refine zCc hE fun e te hd hte=>?_
  obtain ⟨i,z,d,hi,hsz,hby,hz,hzr,hzl,_,_,hde,hc⟩:=hte.ex;cases hk:Nat.beq k te.size
  ·exact zAB.fail
  ·have hk':=Yg hk
   subst hk';cases hl:Go.Proofs.YtngjhigieajkmaaGreatDoor.lenOf (zAf T os) with
   | none=>exact zAB.fail
   | some ls=>
    obtain ⟨A2,c2,hxv,_⟩:=zE6 hl hs;dsimp only;generalize hm:(Bool.rec len ls (Nat.ble ls len):Nat)=m;have hmin:Nat.min ls len=m:=by
     rw [zQe] at hm;by_cases h:ls<=len
     ·rw [Yf h] at hm
      have:ls=m:=hm
      show min ls len=m
      omega
     ·rw [Ye h] at hm
      have:len=m:=hm
      show min ls len=m
      omega
    cases hsc:zBR H te.size m (zAf T os) with
    | none=>exact zAB.fail
    | some new=>
     obtain ⟨news,g1,g2,g3⟩:=zC1 (P:=P) hI hsc hs;dsimp only
     split
     ·rename_i cs ecs
      cases hst:zDY off cs new with
      | none=>exact zAB.fail
      | some cs'=>
       obtain ⟨h4,rfl⟩:=zB6 hst;obtain ⟨b',s',hi',hnf,vs,rest,ty,p1,p2,p3⟩:=hI.blk id _ ecs;rw [hi0] at hi';injection hi' with hi'
       injection hi' with e1 e2
       subst e1 e2;have hnl:=g1.len;have hcl:=p2.len;have hstore:=run_storeCells_at (P:=P) b off ty news 0 (vs++rest).toArray w p1 (by simp;omega) (g1.cells rfl);simp only [Nat.add_zero] at hstore;intro v H' n' er hf;injection er with e1 e2 e3
       subst e1 e2 e3;refine zBk.value (u:=.int .i64 (m:Int)) (w':=w.setRow b ((vs++rest).toArray.toList.take off++news++(vs++rest).toArray.toList.drop (off+news.length)).toArray) ?_
        ⟨ι,fz,zB1.write hI ecs hi0 (by simp) (fun k hk=>setRow_other _ _ _ _ hk) rfl rfl rfl (fun hfz=>?_),.i _ _⟩
       ·have hf:=g3 w rfl
        rw [hxv] at hf;simp only [execOp,ho,resolve,hcb,Sem.run_bind,Sem.run_pure,Result.andThen_ok,invoke,builtin,htypes,hargs,List.map_toArray,List.map_cons,List.map_nil,hdv,hxv];simp [Builtin.copy_,run_underlying hd,Builtin.lenOf,zAj hi,hsz,hmin,hf,hstore,goInt]
       ·refine ⟨vs.take off++news++vs.drop (off+new.length),rest,ty,?_,?_,?_⟩
        ·rw [setRow_heap _ _ _ _ _ _ p1]
         congr 2
         rw [hnl];simp only [List.take_append_of_le_length (show off<=vs.length by omega),List.append_assoc,List.append_cancel_left_eq];rw [List.drop_append_of_le_length (by omega)]
        ·exact ((((p2.take _).append g1).append (p2.drop _)).mono (fun _ _ h=>h) (fun _ h=>h) hfz)
        ·rw [<- p3]
         simp only [Yu,Yr,List.length_drop];omega
     ·exact zAB.fail
 ·exact zAB.fail
end
inductive Fd (S:Value->Bool->Prop):List MapEntry->Nat->Option (Nat×Value)->Prop
 | nil (i:Nat):Fd S [] i none
 | hit (e:MapEntry) (es:List MapEntry) (i:Nat) (h:S e.key true):Fd S (e::es) i (some (i,e.val))
 | miss (e:MapEntry) (es:List MapEntry) (i:Nat) (r:Option (Nat×Value)) (h:S e.key false) (hs:Fd S es (i+1) r):Fd S (e::es) i r
section
variable {ι:Io}{fz:Nat->Prop}{w:World}
theorem zJg (x:AV) (p:AV×AV) (r:List (AV×AV)):findKey x (p::r)=zA6 (zJs x p.1) fun t=>(Bool.rec (findKey x r) (some (some p.2)) t:Option (Option AV)):=rfl
theorem zLE (x v:AV) (p:AV×AV) (r:List (AV×AV)):zJ9 x v (p::r)=zA6 (zJs x p.1) fun t=>(Bool.rec (zA6 (zJ9 x v r) fun l=>some (p::l)) (some ((p.1,v)::r)) t:Option (List (AV×AV))):=rfl
def KS (ι:Io) (fz:Nat->Prop) (w:World) (x:AV) (u:Value) (b:Bool):Prop:=∃y,Rel ι fz w y u/\zJs x y=some b
theorem zMo {x:AV}:∀ {ps:List (AV×AV)}{es:List MapEntry},zJN ι fz w ps es->∀ {r:Option AV},findKey x ps=some r->∀i,∃q,Fd (KS ι fz w x) es i q/\((r=none/\q=none)\/∃v j y,r=some v/\q=some (j,y)/\Rel ι fz w v y):=by
 intro ps es hm
 induction hm with
 | nil=>intro r h i;cases h;exact ⟨none,.nil i,.inl ⟨rfl,rfl⟩⟩
 | cons p e ps es hk hv _ ih=>
  intro r h i;rw [zJg] at h;obtain ⟨t,ht,h⟩:=zAW h;cases t
  ·obtain ⟨q,h1,h2⟩:=ih h (i+1)
   exact ⟨q,.miss e es i q ⟨_,hk,ht⟩ h1,h2⟩
  ·cases h
   exact ⟨_,.hit e es i ⟨_,hk,ht⟩,.inr ⟨_,_,_,rfl,rfl,hv⟩⟩
theorem zOi {x v:AV}{u y:Value}(hx:Rel ι fz w x u) (hvy:Rel ι fz w v y) (born:Nat) (hS:∀k,KS ι fz w x k true->k=u):∀ {ps:List (AV×AV)}{es:List MapEntry},zJN ι fz w ps es->∀ {ps':List (AV×AV)},zJ9 x v ps=some ps'->∀i,
  (Fd (KS ι fz w x) es i none/\zJN ι fz w ps' (es++[⟨u,y,born⟩]))\/
  ∃j e,Fd (KS ι fz w x) es i (some (i+j,e.val))/\es[j]? = some e/\e.key=u/\zJN ι fz w ps' (es.modify j fun e=>{ e with key:=u,val:=y }):=by
 intro ps es hm
 induction hm with
 | nil=>
  intro ps' h i;cases h;exact .inl ⟨.nil i,.cons _ _ _ _ hx hvy .nil⟩
 | cons p e ps es hk hv hm ih=>
  intro ps' h i;rw [zLE] at h;obtain ⟨t,ht,h⟩:=zAW h;cases t
  ·obtain ⟨l,hl,h⟩:=zAW h
   cases h;rcases ih hl (i+1) with ⟨h1,h2⟩ | ⟨j,e',h1,h2,h3,h4⟩
   ·exact .inl ⟨.miss e es i none ⟨_,hk,ht⟩ h1,.cons _ _ _ _ hk hv h2⟩
   ·refine .inr ⟨j+1,e',?_,by simpa using h2,h3,?_⟩
    ·rw [show i+(j+1)=i+1+j by omega]
     exact .miss e es i _ ⟨_,hk,ht⟩ h1
    ·rw [List.modify_succ_cons]
     exact .cons _ _ _ _ hk hv h4
  ·cases h
   have:=hS _ ⟨_,hk,ht⟩;refine .inr ⟨0,e,.hit e es i ⟨_,hk,ht⟩,rfl,this,?_⟩;rw [List.modify_zero_cons];refine .cons _ _ _ _ ?_ hvy hm
   show Rel ι fz w p.1 u
   rw [<- this];exact hk
end
theorem zT8 {S:Value->Bool->Prop}{es:List MapEntry}{i:Nat}{r:Option (Nat×Value)}(h:Fd S es i r):r≠none->∃q,S q true:=by
 induction h with
 | nil=>intro e;exact absurd rfl e
 | hit e es i h=>intro _;exact ⟨_,h⟩
 | miss e es i r h _ ih=>exact ih
section
variable {P:Program}{ι:Io}{fz:Nat->Prop}{w:World}
theorem zKq:∀ {xs ys:List AV}{us vs:List Value},zCo xs ys=some true->zA5 ι fz w true xs us->zA5 ι fz w true ys vs->us=vs:=by
 intro xs
 induction xs with
 | nil=>
  intro ys us vs h hx hy;cases ys with
  | nil=>cases hx;cases hy;rfl
  | cons=>cases h
 | cons x xs ih=>
  intro ys us vs h hx hy;cases ys with
  | nil=>cases h
  | cons y ys=>
   rw [zCd] at h;cases hx with
   | cons _ _ u _ us hxu _ hxs=>
    cases hy with
    | cons _ _ v _ vs hyv _ hys=>
     split at h
     ·rename_i j p k q
      cases hk:Nat.beq (kc j) (kc k)
      ·rw [hk] at h;cases h
      ·rw [hk] at h
       dsimp only at h;have:=zFx hk;subst this;cases he:eqI p q
       ·rw [he] at h;cases h
       ·rw [he] at h
        rw [zDl] at he;have he':p=q:=of_decide_eq_true he;subst he';cases hxu;cases hyv;rw [ih h hxs hys]
     ·cases h
theorem zuA (s t:ByteArray):(s.data.toList == t.data.toList)=(s == t):=by
 obtain ⟨s⟩:=s;obtain ⟨t⟩:=t
 show (s.toList == t.toList)=(s == t)
 simp
theorem zRx {x:AV}{u k:Value}(hx:Rel ι fz w x u) (h:KS ι fz w x k true):k=u:=by
 obtain ⟨y,hy,h⟩:=h;unfold zJs at h
 split at h
 ·rename_i j p k' q
  cases hk:Nat.beq (kc j) (kc k')
  ·rw [hk] at h;cases h
  ·rw [hk] at h
   dsimp only at h;have:=zFx hk;subst this;rw [zDl] at h;injection h with h
   have:p=q:=of_decide_eq_true h;subst this;cases hx;cases hy;rfl
 ·rename_i xs ys
  cases hx with
  | agg _ us hu=>
   cases hy with
   | agg _ vs hv=>rw [zKq h hu hv]
 ·rename_i s t
  injection h with h
  have h:=eq_of_beq h;have:s=t:=by
   obtain ⟨⟨s⟩⟩:=s;obtain ⟨⟨t⟩⟩:=t;cases h;rfl
  subst this;cases hx;cases hy;rfl
 ·cases h
theorem zT9 {d:TypeDesc}{u:Value}{S:Value->Bool->Prop}(hS:∀k b,S k b->Instr.sameNow d u k=some b):∀ {es:List MapEntry}{i:Nat}{r:Option (Nat×Value)},Fd S es i r->Instr.findNow d u es i=some r:=by
 intro es i r h
 induction h with
 | nil=>rfl
 | hit e es i h=>simp only [Instr.findNow,hS _ _ h]
 | miss e es i r h _ ih=>simp only [Instr.findNow,hS _ _ h,ih]
theorem zN4 {kt:TypeId}{u:Value}{S:Value->Bool->Prop}(hS:∀k b,S k b->(Op.equal kt u k).run P w=.ok b w):∀ {es:List MapEntry}{i:Nat}{r:Option (Nat×Value)},Fd S es i r->(Instr.findAsking kt u es i).run P w=.ok r w:=by
 intro es i r h
 induction h with
 | nil=>rfl
 | hit e es i h=>simp only [Instr.findAsking,Sem.run_bind,hS _ _ h,Result.andThen_ok,if_true,Sem.run_pure]
 | miss e es i r h _ ih=>simp only [Instr.findAsking,Sem.run_bind,hS _ _ h,Result.andThen_ok,Bool.false_eq_true,if_false,ih]
structure zRy (P:Program) (ι:Io) (fz:Nat->Prop) (w:World) (kt:TypeId) (x:AV) (u:Value):Prop where
 check:∀em w',(Instr.checkKey em 10000 kt u).run P w' = .ok () w'
 find:∀es r,Fd (KS ι fz w x) es 0 r->(Instr.findKey kt u es).run P w=.ok r w
 stays:(∃k,KS ι fz w x k true)->∀w',(Instr.keyThatStays u u).run P w' = .ok u w'
theorem zF3 (d:Nat) (k:IntKind) (p:Int):Instr.sameBits d (.int k p) (.int k p)=true:=by cases d <;> simp [Instr.sameBits]
theorem zSa {kt:TypeId}{k k':IntKind}{p:Int}(hd:P.underlying kt=some (.int k)):zRy P ι fz w kt (.i k' p) (.int k' p) where
 check em w':=by
  rw [show (10000:Nat)=9999+1 from rfl,Instr.checkKey];simp [run_underlying hd]
 find es r h:=by
  have:=zT9 (d:=.int k) (u:=.int k' p) (S:=KS ι fz w (.i k' p)) (fun v b ⟨y,hy,h⟩=>by
   unfold zJs at h
   split at h
   ·rename_i j p' k2 q e
    cases e;cases hk:Nat.beq (kc k') (kc k2)
    ·rw [hk] at h;cases h
    ·rw [hk] at h
     dsimp only at h;have:=zFx hk;subst this;rw [zDl] at h;injection h with h
     cases hy;simp only [Instr.sameNow,if_true];rw [<- h]
     congr 1
   ·rename_i e;cases e
   ·rename_i e;cases e
   ·cases h) h
  simp [Instr.findKey,run_underlying hd,this]
 stays _ w':=by simp [Instr.keyThatStays,zF3]
theorem zuc {kt:TypeId}{s:ByteArray}(hd:P.underlying kt=some .string):zRy P ι fz w kt (.v (.string s)) (.string s) where
 check em w':=by
  rw [show (10000:Nat)=9999+1 from rfl,Instr.checkKey];simp [run_underlying hd]
 find es r h:=by
  have:=zT9 (d:=.string) (u:=.string s) (S:=KS ι fz w (.v (.string s))) (fun v b ⟨y,hy,h⟩=>by
   unfold zJs at h
   split at h
   ·rename_i e;cases e
   ·rename_i e;cases e
   ·rename_i s' t e
    cases e;cases hy;rw [zuA] at h;exact h
   ·cases h) h
  simp [Instr.findKey,run_underlying hd,this]
 stays _ w':=by simp [Instr.keyThatStays,Instr.sameBits,<- zuA]
theorem zJt {xs:List AV}{y:AV}{b:Bool}(h:zJs (.agg xs) y=some b):∃ys,y=.agg ys/\zCo xs ys=some b:=by
 cases y <;> first | cases h;done | exact ⟨_,rfl,h⟩
theorem zFF (d:Nat):∀ (xs ys:List AV) (us:List Value),zA5 ι fz w true xs us->zCo xs ys=some true->((us.zip us).all fun (x,y)=>Instr.sameBits d x y)=true
 | [],_,us,h,_=>by cases h;rfl
 | x::xs,[],us,h,hi=>by cases hi
 | x::xs,y::ys,us,h,hi=>by
  cases h with
  | cons _ _ u _ us hxu _ hxs=>
   rw [zCd] at hi
   split at hi
   ·rename_i j p k q
    cases hk:Nat.beq (kc j) (kc k)
    ·rw [hk] at hi;cases hi
    ·rw [hk] at hi
     dsimp only at hi;cases he:eqI p q
     ·rw [he] at hi;cases hi
     ·rw [he] at hi
      cases hxu;simp only [List.zip_cons_cons,List.all_cons];rw [zFF d xs ys us hxs hi];simp [zF3]
   ·cases hi
theorem zGc (D:Nat) (em:Bool) (w':World):∀ (d:Nat) (t:TypeId) (s:Nat),zHW P d t s->∀ (us:List Value) (u:Value),Whole P t us u->us.length=s->(Instr.checkKey em (D+d) t u).run P w' = .ok () w'
 | 0,t,s,h=>by cases h
 | d+1,t,s,h=>by
  intro us u ⟨d1,h1,hu⟩ hl;rcases h with ⟨k,i,g1,g2,g3,rfl⟩ | ⟨fields,i,g1,g2,g3,g4,g5⟩
  ·rw [<- Nat.add_assoc,Instr.checkKey]
   simp [run_underlying g1]
  ·rw [h1] at g1
   injection g1 with g1
   subst g1;have hu:u=.agg us.toArray:=by
                     rcases hu with ⟨_,h⟩ | ⟨h,_⟩; · exact h
                     ·cases h
   subst hu;rw [<- Nat.add_assoc,Instr.checkKey];simp only [Sem.run_bind,run_underlying h1,Result.andThen_ok];rw [<- Array.forIn_toList];have each:∀ (fs:List Field) (o:Nat),zFO (zHW P d) fs o s->∀f∈fs,f.name ≠ "_"/\∃a,(part f.type us.toArray f.offset).run P w' = .ok a w'/\(Instr.checkKey em (D+d) f.type a).run P w' = .ok () w':=by
    intro fs
    induction fs with
    | nil=>intro o _ f hf;cases hf
    | cons g fs ih=>
     intro o ⟨h6,h7,s',h8,h9⟩ f hf;have hle:=zFd h9;cases hf with
     | head=>
      obtain ⟨a,p1,p2⟩:=zFg h8 us o (fun _=>by omega) w';refine ⟨h7,a,by rw [h6];exact p1,zGc D em w' d g.type s' h8 _ a p2 ?_⟩;rw [Yr,List.length_drop];omega
     | tail _ hf=>exact ih (o+s') h9 f hf
   have each:=each fields.toList 0 g5;generalize fields.toList=L at each
   induction L with
   | nil=>simp
   | cons f L ih=>
    obtain ⟨hn,a,p1,p2⟩:=each f (by simp);simp only [List.forIn_cons,Sem.run_bind,hn,ne_eq,not_false_eq_true,if_true,Result.andThen_ok,p1,p2,Sem.run_pure];exact ih (fun y hy=>each y (by simp [hy]))
theorem zMx {kt:Nat}{tk:TI}{xs:List AV}{us:List Value}(hok:zMV P kt tk) (heq:tk.eq=true) (hl:xs.length=tk.size) (hr:zA5 ι fz w true xs us):zRy P ι fz w kt (.agg xs) (.agg us.toArray):=by
 obtain ⟨g1,⟨fields,g3⟩,g4⟩:=hok.eq heq;refine ⟨fun em w'=>zGc 9991 em w' 9 kt tk.size g4 us _ ⟨_,g3,.inl ⟨rfl,rfl⟩⟩ (by rw [<- hr.len];exact hl),fun es r h=>?_,fun ⟨k,y,hy,h⟩ w'=>?_⟩
 ·have hask:=zN4 (P:=P) (w:=w) (kt:=kt) (u:=.agg us.toArray) (S:=KS ι fz w (.agg xs)) (fun v b ⟨y,hy,h⟩=>by
   obtain ⟨ys,rfl,h⟩:=zJt h;cases hy with
   | agg _ vs hrv=>exact zIc (P:=P) (w:=w) (ι:=ι) (fz:=fz) 9991 9 kt tk.size g4 xs ys us vs _ _ b ⟨_,g3,.inl ⟨rfl,rfl⟩⟩ ⟨_,g3,.inl ⟨rfl,rfl⟩⟩ hr hrv hl h) h
  cases h with
  | nil=>simp [Instr.findKey,run_underlying g3,Instr.findNow]
  | hit e es i h=>simp [Instr.findKey,run_underlying g3,Instr.findNow,Instr.sameNow,hask]
  | miss e es i r h hs=>simp [Instr.findKey,run_underlying g3,Instr.findNow,Instr.sameNow,hask]
 ·obtain ⟨ys,rfl,h⟩:=zJt h
  have hb:=zFF (ι:=ι) (fz:=fz) (w:=w) 9999 xs ys us hr h;have:Instr.sameBits 10000 (.agg us.toArray) (.agg us.toArray)=true:=by
   rw [show (10000:Nat)=9999+1 from rfl,Instr.sameBits]
   simpa using hb
  simp [Instr.keyThatStays,this]
end
section
variable {P:Program}{G:Gl}{E:Env}{o:Oper}{a:Act}{ι:Io}{fz:Nat->Prop}{H:Hp}{n:Nat}{w:World}{T:Tm}{call:zAr}
theorem zH0 {t:Nat}{x:AV}{u:Value}{f:Nat->RV}(hE:zBV P E) (hx:Rel ι fz w x u) (h:∀kt e,P.underlying t=some (.map kt e)->zRy P ι fz w kt x u->zAB P G o a ι fz H n w (f e)):zAB P G o a ι fz H n w (keyT E t x f):=by
 unfold keyT;refine zAd hE fun ti hti=>?_
 obtain ⟨i,z,d,_,_,_,_,_,_,_,_,hd,hc⟩:=hti.ex
 split
 ·rename_i kt e hce
  rw [hce] at hc;simp only [zGS] at hc;subst hc;refine zAd hE fun tk htk=>?_
  obtain ⟨_,_,dk,_,_,_,_,_,_,_,_,hdk,hck⟩:=htk.ex
  split
  ·rename_i k k' p hck'
   rw [hck'] at hck;simp only [zGS] at hck;subst hck;cases hx;exact h kt e hd (zSa hdk)
  ·rename_i s hck'
   rw [hck'] at hck;simp only [zGS] at hck;subst hck;cases hx;exact h kt e hd (zuc hdk)
  ·rename_i fs cs hck'
   cases hc:Bool.and tk.eq (Nat.beq (zJK cs) tk.size)
   ·exact zAB.fail
   ·simp only [Yi] at hc
    have hl:=Yg hc.2;rw [zCx] at hl;cases hx with
    | agg _ us hu=>exact h kt e hd (zMx htk hc.1 hl hu)
  ·exact zAB.fail
 ·exact zAB.fail
theorem zOV (hI:Inv G ι fz (hget H) w) {id:Nat}{u:Value}{es:List (AV×AV)}(hr:Rel ι fz w (.map id) u) (e:hget H id=some (.map es)) :
  ∃b s ms clock,u=.map (some b)/\ι id=some (b,s)/\w.heap[b]? = some (.map ms clock)/\zJN ι fz w es ms.toList:=by
 cases hr with
 | map _ b s hi=>
  obtain ⟨b',s',hi',hn,ms,clock,h1,h2⟩:=hI.blk id _ e;rw [hi] at hi';injection hi' with hi'
  injection hi' with e1 e2
  subst e1 e2;exact ⟨b,s,ms.toArray,clock,rfl,hi,h1,by simpa using h2⟩
theorem zO3 {t:Nat}{r:Option Operand}(ho:o.op=.makeMap t r) (hI:Inv G ι fz (hget H) w):zAB P G o a ι fz H n w (zCt t r E call T H n):=by
 unfold zCt
 split
 ·intro v H' n' er hf
  injection er with e1 e2 e3
  subst e1 e2 e3;refine zBk.value (u:=.map (some w.heap.size)) (w':={ w with heap:=w.heap.push (.map #[] 0),drawn:=w.drawn+0 }) ?_ ⟨_,fz,zB1.new hI (hf n (Ya _) (Nat.lt_succ_self _)) (.map []) _ 0 (fun w' h1 h2=>?_) 0,.map _ _ 0 (by simp)⟩
  ·simp only [execOp,ho,Instr.makeMap,newObj,Sem.run_bind,Sem.run_pure,Result.andThen_ok,Option.map_none,Nat.add_zero]
   rfl
  ·exact ⟨[],0,by simpa using h1,.nil⟩
 ·exact zAB.fail
theorem zMD {t:Nat}{m k x:Operand}(hE:zBV P E) (ho:o.op=.mapUpdate t m k x\/o.op=.insert t m k x) (hI:Inv G ι fz (hget H) w) (hm:Rel ι fz w (zAf T m) (a.eval m)) (hk:Rel ι fz w (zAf T k) (a.eval k)) (hx:Rel ι fz w (zAf T x) (a.eval x)) :
  zAB P G o a ι fz H n w (zDy t m k x E call T H n):=by
 unfold zDy;refine zH0 hE hk fun kt e hd K=>?_
 split
 ·rename_i id em
  rw [em] at hm
  split
  ·rename_i es ees
   obtain ⟨b,s,ms,clock,hu,hi,hb,hmr⟩:=zOV hI hm ees;cases hp:zJ9 (zAf T k) (zAf T x) es with
   | none=>exact zAB.fail
   | some es'=>
    intro v H' n' er hf;injection er with e1 e2 e3
    subst e1 e2 e3;have fin:∀ (ms':Array MapEntry) (clock':Nat),(execOp a.eval o).run P w=.ok .skip { w with heap:=w.heap.setIfInBounds b (.map ms' clock') }->zJN ι fz w es' ms'.toList->
      zBk P o a w fun u w'=>∃ι' fz',zB1 G ι fz (hget H) n w ι' fz' (hget (zK1 H id (.map es'))) n w'/\Rel ι' fz' w' (.v undef) u:=by
     intro ms' clock' hrun hrm;have hbl:b<w.heap.size:=(Yv.1 hb).1;refine zBk.skip hrun ⟨ι,fz,zB1.write hI ees hi (by simp) (fun k hk=>?_) rfl rfl rfl (fun hfz=>?_),.v _⟩
     ·exact Xb (Ne.symm hk)
     ·exact ⟨ms'.toList,clock',by simp [hbl],hrm.mono (fun _ _ h=>h) (fun _ h=>h) hfz⟩
    rcases zOi hk hx clock (fun k h=>zRx hk h) hmr hp 0 with ⟨h1,h2⟩ | ⟨j,e0,h1,h2,h3,h4⟩
    ·refine fin (ms.push ⟨a.eval k,a.eval x,clock⟩) (clock+1) ?_ (by simpa using h2)
     have hfind:=K.find _ _ h1;rcases ho with ho | ho <;> simp [execOp,ho,hu,Instr.mapUpdate,run_underlying hd,MapKept.run_getObj_map hb,K.check,hfind,MapKept.run_setObj_map _ hb]
    ·refine fin (ms.modify j fun e=>{ e with key:=a.eval k,val:=a.eval x }) clock ?_ (by simpa [Array.toList_modify] using h4)
     have hfind:=K.find _ _ h1;rw [Nat.zero_add] at hfind;have hj:ms[j]? = some e0:=by simpa using h2
     have hex:∃q,KS ι fz w (zAf T k) q true:=zT8 h1 (by simp);rcases ho with ho | ho <;> simp [execOp,ho,hu,Instr.mapUpdate,run_underlying hd,MapKept.run_getObj_map hb,K.check,hfind,hj,h3,K.stays hex,MapKept.run_setObj_map _ hb]
  ·exact zAB.fail
 ·exact zAB.fail
theorem zNL {t:Nat}{ti:TI}{y:AV}(hti:zMV P t ti) (h:zIM ti=some y):∃z,(zeroValue t).run P w=.ok z w/\Rel ι fz w y z:=by
 obtain ⟨i,z,d,hi,hs,hb,hz,hzr,hzl,hza,hzn,hd,hc⟩:=hti.ex;refine ⟨z,zHE hi hz w,?_⟩;unfold zIM at h;rw [zG0 hc] at h;have hzr':=hzr ι fz w;cases hag:zBZ d
 ·rw [hag] at h
  change zK0 ti.zero=some y at h
  rw [zGG,List.head?_eq_getElem?] at h;obtain ⟨u,h1,h2,_⟩:=hzr'.get h;rw [hzn hag] at h1;simp at h1;subst h1;exact h2
 ·rw [hag] at h
  injection h with h
  subst h;rw [hza hag];have:=Rel.agg _ _ hzr'
  simpa using this
theorem zQu {t:Nat}{m k:Operand}{ok:Bool}(hE:zBV P E) (ho:o.op=.lookup t m k ok) (hI:Inv G ι fz (hget H) w) (hm:Rel ι fz w (zAf T m) (a.eval m)) (hk:Rel ι fz w (zAf T k) (a.eval k)) :
  zAB P G o a ι fz H n w (zDx t m k ok E call T H n):=by
 unfold zDx;refine zH0 hE hk fun kt e hd K=>?_
 split
 ·rename_i id em
  rw [em] at hm
  split
  ·rename_i es ees
   obtain ⟨b,s,ms,clock,hu,hi,hb,hmr⟩:=zOV hI hm ees;cases hp:findKey (zAf T k) es with
   | none=>exact zAB.fail
   | some r=>
    obtain ⟨q,h1,h2⟩:=zMo hmr hp 0;have hfind:=K.find _ _ h1;rcases h2 with ⟨rfl,rfl⟩ | ⟨v,j,y,rfl,rfl,hv⟩
    ·refine zAd hE fun te hte=>?_
     cases hz:zIM te with
     | none=>exact zAB.fail
     | some z=>
      obtain ⟨zv,hz1,hz2⟩:=zNL (w:=w) (ι:=ι) (fz:=fz) hte hz;cases ok
      ·refine zAB.same hI (u:=zv) ?_ hz2
       simp [execOp,ho,hu,Instr.lookup,run_underlying hd,MapKept.run_getObj_map hb,K.check,hfind,hz1]
      ·refine zAB.same hI (u:=.tuple #[zv,.bool false]) ?_ (.tup _ [zv,.bool false] (.cons _ _ _ _ _ hz2 (fun h=>by cases h) (.cons _ _ _ _ _ (.b _) (fun h=>by cases h) (.nil _))))
       simp [execOp,ho,hu,Instr.lookup,run_underlying hd,MapKept.run_getObj_map hb,K.check,hfind,hz1]
    ·cases ok
     ·refine zAB.same hI (u:=y) ?_ hv
      simp [execOp,ho,hu,Instr.lookup,run_underlying hd,MapKept.run_getObj_map hb,K.check,hfind]
     ·refine zAB.same hI (u:=.tuple #[y,.bool true]) ?_ (.tup _ [y,.bool true] (.cons _ _ _ _ _ hv (fun h=>by cases h) (.cons _ _ _ _ _ (.b _) (fun h=>by cases h) (.nil _))))
      simp [execOp,ho,hu,Instr.lookup,run_underlying hd,MapKept.run_getObj_map hb,K.check,hfind]
  ·exact zAB.fail
 ·exact zAB.fail
end
structure zCG (n:Nat) (H:Hp) (n':Nat) (H':Hp):Prop where
 le:n<=n'
 desc:zBc n' H'
 dom:∀id,id<n->hget H id=none->hget H' id=none
theorem zCG.refl {n:Nat}{H:Hp}(h:zBc n H):zCG n H n H:=⟨Ya _,h,fun _ _ e=>e⟩
theorem zCG.trans {n n1 n2:Nat}{H H1 H2:Hp}(h:zCG n H n1 H1) (h':zCG n1 H1 n2 H2):zCG n H n2 H2:=⟨Yq h.le h'.le,h'.desc,fun id hi e=>h'.dom id (Yh hi h.le) (h.dom id hi e)⟩
def zAq (H:Hp) (n:Nat) (r:RV):Prop:=zBc n H->∀v H' n',r=.ok v H' n'->zCG n H n' H'
section
variable {H:Hp}{n:Nat}
theorem zAq.fail:zAq H n .fail:=fun _ _ _ _ e=>by cases e
theorem zAq.same (v:AV):zAq H n (.ok v H n):=fun h _ _ _ e=>by injection e with _ e2 e3;subst e2 e3;exact zCG.refl h
theorem zAq.new (v:AV) (x:HB):zAq H n (.ok v ((n,x)::H) (Nat.succ n)):=fun h _ _ _ e=>by injection e with _ e2 e3;subst e2 e3;exact ⟨Nat.le_succ _,h.new x,fun id hi e=>by rw [zAY,if_neg (by omega)];exact e⟩
theorem zAq.move (v:AV) (x:HB) (id:Nat):zAq H n (.ok v ((n,x)::zPj H id) (Nat.succ n)):=fun h _ _ _ e=>by injection e with _ e2 e3;subst e2 e3;exact ⟨Nat.le_succ _,(h.del id).new x,fun j hi e=>by rw [zAY,if_neg (by omega),zIh h];split <;> first | rfl | exact e⟩
theorem zAq.set (v:AV) (id:Nat) (x:HB):zAq H n (.ok v (zK1 H id x) n):=fun h _ _ _ e=>by injection e with _ e2 e3;subst e2 e3;exact ⟨Ya _,h.set id x,fun j hi e=>by rw [zLq];split <;> first | (rename_i hj;subst hj;rw [e];rfl) | exact e⟩
theorem zAq.opt {α:Type}(o:Option α) (f:α->RV) (h:∀x,zAq H n (f x)):zAq H n (Option.rec .fail f o):=by cases o <;> first | exact zAq.fail | exact h _
theorem zAq.opt2 {α:Type}(o:Option α) (a:RV) (f:α->RV) (h0:zAq H n a) (h:∀x,zAq H n (f x)):zAq H n (Option.rec a f o):=by cases o <;> first | exact h0 | exact h _
theorem zAq.bool (t:Bool) (a b:RV) (ha:zAq H n a) (hb:zAq H n b):zAq H n (Bool.rec a b t):=by cases t <;> assumption
theorem zAq.okv (x:Option AV):zAq H n (okv x H n):=zAq.opt x _ fun v=>zAq.same v
theorem zAq.withT {E:Env}{t:Nat}{f:TI->RV}(h:∀ti,zAq H n (f ti)):zAq H n (withT E t f):=zAq.opt _ _ h
theorem zAq.elemT {E:Env}{t:Nat}{f:TI->RV}(h:∀ti,zAq H n (f ti)):zAq H n (elemT E t f):=zAq.withT fun ti=>by
 split
 ·exact zAq.withT h
 ·exact zAq.fail
theorem zAq.keyT {E:Env}{t:Nat}{x:AV}{f:Nat->RV}(h:∀e,zAq H n (f e)):zAq H n (keyT E t x f):=zAq.withT fun ti=>by
 split
 ·refine zAq.withT fun tk=>?_
  split
  ·exact h _
  ·exact h _
  ·exact zAq.bool _ _ _ zAq.fail (h _)
  ·exact zAq.fail
 ·exact zAq.fail
end
theorem zB2 {p:Prop}(h:p:=by repeat (first
 | exact zAq.fail | exact zAq.same _ | exact zAq.new _ _ | exact zAq.move _ _ _ | exact zAq.set _ _ _ | exact zAq.okv _
 | refine zAq.withT fun _=>?_ | refine zAq.elemT fun _=>?_ | refine zAq.keyT fun _=>?_
 | refine zAq.bool _ _ _ ?_ ?_ | refine zAq.opt _ _ fun _=>?_ | refine zAq.opt2 _ _ _ ?_ fun _=>?_ | split | dsimp only)):p:=h
def zBd (call:zAr):Prop:=∀f args H n,zAq H n (call f args H n)
section
variable {E:Env}{call:zAr}{T:Tm}{H:Hp}{n:Nat}
theorem zUN (te:TI) (s:AV) (new:List AV) (m:Nat):zAq H n (zMc te s new m H n):=by unfold zMc;exact zB2
theorem zQS (ts:List TypeId) (args:List AV):zAq H n (zGU E ts args H n):=by
 unfold zGU
 split
 ·refine zAq.elemT fun te=>zAq.withT fun tu=>zAq.bool _ _ _ zAq.fail ?_
  split
  ·exact zAq.opt _ _ fun m=>zAq.bool _ _ _ (zAq.bool _ _ _ zAq.fail (zUN _ _ _ _)) (zAq.same _)
  ·exact zAq.opt _ _ fun m=>zAq.bool _ _ _ (zAq.bool _ _ _ zAq.fail (zAq.opt _ _ fun _=>zUN _ _ _ _)) (zAq.same _)
  ·exact zAq.fail
 ·exact zAq.fail
theorem zUP (ts:List TypeId) (args:List AV):zAq H n (zNf E ts args H n):=by
 unfold zNf
 split
 ·refine zAq.elemT fun te=>zAq.bool _ _ _ zAq.fail (zAq.opt _ _ fun ls=>zAq.opt _ _ fun new=>?_)
  split
  ·exact zAq.opt _ _ fun cs=>zAq.set _ _ _
  ·exact zAq.fail
 ·exact zAq.fail
theorem zUO (hc:zBd call) (c:Call):zAq H n (zNI c E call T H n):=by
 obtain ⟨callee,args,ts⟩:=c;cases callee with
 | value f=>
  show zAq H n (zIL f args E call T H n)
  unfold zIL
  split
  ·exact hc _ _ _ _
  ·exact zAq.fail
 | invoke r m=>
  show zAq H n (zrN r m args E call T H n)
  unfold zrN
  split
  ·refine zAq.withT fun ti=>?_
   split
   ·exact zAq.opt _ _ fun f=>hc _ _ _ _
   ·exact zAq.fail
  ·exact zAq.fail
 | builtin b=>
  show zAq H n (zDT b ts args E call T H n)
  unfold zDT
  split
  ·unfold zR8;exact zB2
  ·exact zQS _ _
  ·unfold zR7;exact zB2
  ·unfold zNN;exact zB2
  ·unfold zNN;exact zB2
  ·exact zUP _ _
  ·exact zAq.fail
theorem zOU (hc:zBd call) (o:Op):zAq H n (zFY o E call T H n):=by
 cases o
 case move=>exact zAq.same _
 case assign=>exact zAq.same _
 case pick=>show zAq H n (zKb _ _ _ E call T H n);unfold zKb;exact zB2
 case alloc=>show zAq H n (zHN _ E call T H n);unfold zHN zTj;exact zB2
 case box t x=>show zAq H n (zRt t x E call T H n);unfold zRt zTj;exact zB2
 case build=>show zAq H n (zHO _ _ E call T H n);unfold zHO;exact zB2
 case buildSlice=>show zAq H n (zBv _ _ _ E call T H n);unfold zBv;exact zB2
 case insert=>show zAq H n (zDy _ _ _ _ E call T H n);unfold zDy;exact zB2
 case load=>show zAq H n (zHe _ _ E call T H n);unfold zHe;exact zB2
 case store=>show zAq H n (zMS _ _ _ E call T H n);unfold zMS zI6;exact zB2
 case nilCheck=>show zAq H n (zRu _ E call T H n);unfold zRu;exact zB2
 case binOp op t x y t2=>show zAq H n (zTb op t x y t2 E call T H n);unfold zTb;exact zB2
 case unOp op t x=>show zAq H n (xUn op t x E call T H n);unfold xUn;exact zB2
 case convert=>show zAq H n (zLT _ _ _ E call T H n);unfold zLT;exact zB2
 case makeInterface t x=>show zAq H n (zra t x E call T H n);unfold zra;exact zB2
 case makeFunc=>show zAq H n (zKa _ _ _ E call T H n);unfold zKa;exact zB2
 case makeMap t r=>show zAq H n (zCt t r E call T H n);unfold zCt;exact zB2
 case makeSlice=>show zAq H n (zLU _ _ _ E call T H n);unfold zLU;exact zB2
 case slice=>show zAq H n (zHR _ _ _ _ _ E call T H n);unfold zHR resl;exact zB2
 case fieldAddr=>show zAq H n (zB7 _ _ _ E call T H n);unfold zB7;exact zB2
 case field=>show zAq H n (zHP _ _ _ E call T H n);unfold zHP;exact zB2
 case indexAddr=>show zAq H n (zB8 _ _ _ E call T H n);unfold zB8;exact zB2
 case index=>show zAq H n (zHQ _ _ _ E call T H n);unfold zHQ;exact zB2
 case lookup=>show zAq H n (zDx _ _ _ _ E call T H n);unfold zDx;exact zB2
 case mapUpdate=>show zAq H n (zDy _ _ _ _ E call T H n);unfold zDy;exact zB2
 case extract=>show zAq H n (zCs _ _ E call T H n);unfold zCs;exact zB2
 case call c=>exact zUO hc c
 all_goals exact zAq.fail
end
def zCu (P:Program) (G:Gl) (f:Nat) (args:List AV) (H:Hp) (n:Nat) (v:AV) (H':Hp) (n':Nat):Prop:=
 ∀ι fz w vals,zA5 ι fz w false args vals->Inv G ι fz (hget H) w->zBc n H->(∀i,n<=i->i<n'->ι i=none)->
  (∃u w',(callFunc f vals.toArray).run P w=.ok (.value u) w'/\∃ι' fz',zB1 G ι fz (hget H) n w ι' fz' (hget H') n' w'/\Rel ι' fz' w' v u)\/
  ((callFunc f vals.toArray).run P w=.ok (.enter f vals.toArray) w/\Calls P f vals.toArray w fun
   | .returned u,w'=>∃ι' fz',zB1 G ι fz (hget H) n w ι' fz' (hget H') n' w'/\Rel ι' fz' w' v u
   | _,_=>False)
def zDV (P:Program) (G:Gl) (call:zAr):Prop:=
 ∀f args H n v H' n',call f args H n=.ok v H' n'->zCu P G f args H n v H' n'
section
variable {P:Program}{G:Gl}{E:Env}{o:Oper}{a:Act}{ι:Io}{fz:Nat->Prop}{H:Hp}{n:Nat}{w:World}{T:Tm}{call:zAr}
theorem zQT {l:List Operand}(h:∀x∈l,Rel ι fz w (zAf T x) (a.eval x)):zA5 ι fz w false (zE7 (zAf T) l) (l.map a.eval):=by
 rw [zCN]
 induction l with
 | nil=>exact .nil _
 | cons x l ih=>exact .cons _ _ _ _ _ (h x (by simp)) (fun e=>by cases e) (ih fun y hy=>h y (by simp [hy]))
theorem zTI {c:Call}{f:Operand}(hC:zDV P G call) (ho:o.op=.call c) (hcf:c.callee=.value f) (hI:Inv G ι fz (hget H) w) (hD:zBc n H) (hf:Rel ι fz w (zAf T f) (a.eval f)) (hx:∀x∈c.args.toList,Rel ι fz w (zAf T x) (a.eval x)) :
  zAB P G o a ι fz H n w (zIL f c.args E call T H n):=by
 unfold zIL
 split
 ·rename_i g caps eg
  rw [eg] at hf;generalize hv:a.eval f=fv at hf;cases hf with
  | fn _ _ vs hvs=>
   intro v H' n' er hfr;rw [zEq] at er;have hargs:=(zQT hx).append hvs;have hrun:∀r w',(callFunc g (c.args.toList.map a.eval++vs).toArray).run P w=.ok r w'->(execOp a.eval o).run P w=.ok r w':=by
    intro r w' h;have e1:(#[]++c.args.map a.eval++vs.toArray)=(c.args.toList.map a.eval++vs).toArray:=by
     apply Array.ext'
     simp
    simp only [execOp,ho,resolve,hcf,hv,Deferred.ofValue,Sem.run_bind,Sem.run_pure,Result.andThen_ok,invoke,e1,h]
   rcases hC _ _ _ _ _ _ _ er ι fz w _ hargs hI hD hfr with ⟨u,w',h1,h2⟩ | ⟨h1,h2⟩
   ·exact zBk.value (hrun _ _ h1) h2
   ·exact zBk.enter (hrun _ _ h1) h2
 ·exact zAB.fail
theorem zvN {t:Nat}{x:Operand}(hE:zBV P E) (ho:o.op=.makeInterface t x) (hI:Inv G ι fz (hget H) w) (hx:Rel ι fz w (zAf T x) (a.eval x)) :
  zAB P G o a ι fz H n w (zra t x E call T H n):=by
 refine zAd hE fun ti hti=>?_
 obtain ⟨i,z,d,_,_,_,_,_,_,_,_,hd,hc⟩:=hti.ex
 split
 ·rename_i ms hm
  rw [hm] at hc;obtain ⟨e,rfl⟩:=hc;exact zAB.same hI (by simp [execOp,ho,Instr.makeInterface,run_underlying hd]) (.ifc t _ _ hx)
 ·exact zAB.fail
theorem zt2 {c:Call}{r:Operand}{name:String}(hE:zBV P E) (hC:zDV P G call) (ho:o.op=.call c) (hcf:c.callee=.invoke r name) (hI:Inv G ι fz (hget H) w) (hD:zBc n H) (hr:Rel ι fz w (zAf T r) (a.eval r)) (hx:∀x∈c.args.toList,Rel ι fz w (zAf T x) (a.eval x)) :
  zAB P G o a ι fz H n w (zrN r name c.args E call T H n):=by
 unfold zrN
 split
 ·rename_i t x eg
  rw [eg] at hr;generalize hv:a.eval r=rv at hr;cases hr with
  | ifc _ _ v hxv=>
   refine zAd hE fun ti hti=>?_
   obtain ⟨i,z,d,_,_,_,_,_,_,_,_,hd,hc⟩:=hti.ex
   split
   ·rename_i ms hm
    rw [hm] at hc;obtain ⟨e,rfl⟩:=hc;cases hf:zs1 name ms with
    | none=>exact zAB.fail
    | some f=>
     obtain ⟨i',m,g1,g2,g3,g4⟩:=hti.ms ms hm name f hf;intro v' H' n' er hfr;have hargs:zA5 ι fz w false (x::zE7 (zAf T) c.args.toList) (v::c.args.toList.map a.eval):=.cons _ _ _ _ _ hxv (fun e=>by cases e) (zQT hx);have hmeth:(method (P.types.size+Made.depth) t v name).run P w=.ok (f,v) w:=by
      obtain ⟨k,hk⟩:∃k,P.types.size+Made.depth=k+1:=by
       have:0<Made.depth:=by decide
       exact ⟨P.types.size+(Made.depth - 1),by omega⟩
      rw [hk];unfold method;simp only [Sem.run_bind,zDt g1,Result.andThen_ok,g2,g3,g4,follow,Sem.run_pure,receiverAt,run_underlying hd,Place.get]
     have hrun:∀r' w',(callFunc f (v::c.args.toList.map a.eval).toArray).run P w=.ok r' w'->(execOp a.eval o).run P w=.ok r' w':=by
      intro r' w' h;have e0:(#[Value.iface t v]++c.args.map a.eval)[0]? = some (Value.iface t v):=by rw [Array.getElem?_append_left (show 0<1 from Nat.one_pos)];rfl
      have e2:(#[Value.iface t v]++c.args.map a.eval).extract 1 (#[Value.iface t v]++c.args.map a.eval).size=c.args.map a.eval:=by
       apply Array.ext'
       simp;exact Xd (by simp)
      have e1:#[v]++c.args.map a.eval=(v::c.args.toList.map a.eval).toArray:=by
       apply Array.ext'
       simp
      simp only [execOp,ho,resolve,hcf,hv,Sem.run_bind,Sem.run_pure,Result.andThen_ok,invoke,e0,e2,callMethod,run_program,hmeth,e1,h]
     rcases hC _ _ _ _ _ _ _ er ι fz w _ hargs hI hD hfr with ⟨u,w',h1,h2⟩ | ⟨h1,h2⟩
     ·exact zBk.value (hrun _ _ h1) h2
     ·exact zBk.enter (hrun _ _ h1) h2
   ·exact zAB.fail
 ·exact zAB.fail
theorem zVW {c:Call}(hE:zBV P E) (hC:zDV P G call) (ho:o.op=.call c) (hI:Inv G ι fz (hget H) w) (hD:zBc n H) (hx:∀x∈c.operands,Rel ι fz w (zAf T x) (a.eval x)) :
  zAB P G o a ι fz H n w (zNI c E call T H n):=by
 have hargs:∀x∈c.args.toList,Rel ι fz w (zAf T x) (a.eval x):=fun x hx'=>hx x (by
  unfold Call.operands;have:x∈c.args:=Array.mem_toList_iff.1 hx';cases c.callee <;> simp [this])
 cases hcb:c.callee with
 | value f=>
  have:zNI c E call T H n=zIL f c.args E call T H n:=by
   obtain ⟨callee,args,ts⟩:=c;simp only at hcb;subst hcb;rfl
  rw [this];exact zTI hC ho hcb hI hD (hx f (by unfold Call.operands;simp [hcb])) hargs
 | invoke r m=>
  have:zNI c E call T H n=zrN r m c.args E call T H n:=by
   obtain ⟨callee,args,ts⟩:=c;simp only at hcb;subst hcb;rfl
  rw [this];exact zt2 hE hC ho hcb hI hD (hx r (by unfold Call.operands;simp [hcb])) hargs
 | builtin b=>
  have:zNI c E call T H n=zDT b c.argTypes c.args E call T H n:=by
   obtain ⟨callee,args,ts⟩:=c;simp only at hcb;subst hcb;rfl
  rw [this];unfold zDT
  split
  ·exact zeR hE ho hcb hI hargs
  ·exact zQt hE ho hcb hI hD hargs
  ·exact zeQ hE ho hcb hI hargs
  ·exact zVc false ho hcb hI hargs
  ·exact zVc true ho hcb hI hargs
  ·exact zVY hE ho hcb hI hargs
  ·exact zAB.fail
theorem zD7 (hE:zBV P E) (hC:zDV P G call) (hI:Inv G ι fz (hget H) w) (hD:zBc n H) (hx:∀x∈o.op.operands,Rel ι fz w (zAf T x) (a.eval x)):zAB P G o a ι fz H n w (zFY o.op E call T H n):=by
 generalize ho:o.op=op at hx;cases op
 case move=>exact zRj (E:=E) (call:=call) (.inl ho) hI (hx _ (by simp [Op.operands]))
 case assign=>exact zRj (E:=E) (call:=call) (.inr ho) hI (hx _ (by simp [Op.operands]))
 case pick=>exact zVd (E:=E) (call:=call) ho hI (hx _ (by simp [Op.operands])) (hx _ (by simp [Op.operands])) (hx _ (by simp [Op.operands]))
 case alloc=>exact zTG (T:=T) (E:=E) (call:=call) hE ho hI
 case box=>exact zeP (E:=E) (call:=call) ho hI (hx _ (by simp [Op.operands]))
 case build=>exact zTH (E:=E) (call:=call) hE ho hI (fun p hp=>hx _ (by simp only [Op.operands,List.mem_toArray,List.mem_map];exact ⟨p,hp,rfl⟩))
 case buildSlice=>exact zKJ (E:=E) (call:=call) hE ho hI (fun p hp=>hx _ (by simp only [Op.operands,List.mem_toArray,List.mem_map];exact ⟨p,hp,rfl⟩))
 case insert=>exact zMD (call:=call) hE (.inr ho) hI (hx _ (by simp [Op.operands])) (hx _ (by simp [Op.operands])) (hx _ (by simp [Op.operands]))
 case load=>exact zVa (E:=E) (call:=call) hE ho hI (hx _ (by simp [Op.operands]))
 case store=>exact zTM (E:=E) (call:=call) hE ho hI (hx _ (by simp [Op.operands])) (hx _ (by simp [Op.operands]))
 case nilCheck=>exact zeS (E:=E) (call:=call) ho hI (hx _ (by simp [Op.operands]))
 case binOp=>exact zeO (E:=E) (call:=call) hE ho hI (hx _ (by simp [Op.operands])) (hx _ (by simp [Op.operands]))
 case unOp=>exact zkI (E:=E) (call:=call) ho hI (hx _ (by simp [Op.operands]))
 case convert=>exact zVX (E:=E) (call:=call) hE ho hI (hx _ (by simp [Op.operands]))
 case makeInterface=>exact zvN (E:=E) (call:=call) hE ho hI (hx _ (by simp [Op.operands]))
 case makeFunc=>exact zVZ (E:=E) (call:=call) ho hI (fun x h=>hx _ (by simp only [Op.operands,Array.mem_append];exact .inr (Array.mem_toList_iff.1 h)))
 case makeMap=>exact zO3 (T:=T) (E:=E) (call:=call) ho hI
 case makeSlice=>exact zVb (E:=E) (call:=call) hE ho hI (hx _ (by simp [Op.operands])) (hx _ (by simp [Op.operands]))
 case slice=>exact zTL (E:=E) (call:=call) hE ho hI (hx _ (by simp [Op.operands])) (fun y hy=>hx _ (by subst hy;simp [Op.operands])) (fun y hy=>hx _ (by subst hy;simp [Op.operands])) (fun y hy=>hx _ (by subst hy;simp [Op.operands]))
 case fieldAddr=>exact zLK (E:=E) (call:=call) hE ho hI (hx _ (by simp [Op.operands]))
 case field=>exact zTJ (E:=E) (call:=call) hE ho hI (hx _ (by simp [Op.operands]))
 case indexAddr=>exact zLL (E:=E) (call:=call) hE ho hI (hx _ (by simp [Op.operands])) (hx _ (by simp [Op.operands]))
 case index=>exact zTK (E:=E) (call:=call) hE ho hI (hx _ (by simp [Op.operands])) (hx _ (by simp [Op.operands]))
 case lookup=>exact zQu (E:=E) (call:=call) hE ho hI (hx _ (by simp [Op.operands])) (hx _ (by simp [Op.operands]))
 case mapUpdate=>exact zMD (call:=call) hE (.inl ho) hI (hx _ (by simp [Op.operands])) (hx _ (by simp [Op.operands])) (hx _ (by simp [Op.operands]))
 case extract=>exact zO2 (E:=E) (call:=call) ho hI (hx _ (by simp [Op.operands]))
 case call c=>exact zVW hE hC ho hI hD (fun x h=>hx x (by simpa [Op.operands] using h))
 all_goals exact zAB.fail
end
def zHg {E:Env}(ev:Ev E):Prop:=∀D c T H n x T' H' n',ev D c T H n=.ok x T' H' n'->zBc n H->zCG n H n' H'
section
variable {E:Env}{call:zAr}{ops:List Oper}
theorem zB5 {o:Oper}{T:Tm}{H:Hp}{n:Nat}{k:Tm->Hp->Nat->Res}{x:Ex}{T':Tm}{H':Hp}{n':Nat}(h:zGl E call ops o T H n k=.ok x T' H' n') :
  ∃T1 H1 n1,k T1 H1 n1=.ok x T' H' n'/\((zBj ops T o.guard=some true/\∃v,zFY o.op E call T H n=.ok v H1 n1/\T1=put T o.dst v)\/(zBj ops T o.guard=some false/\T1=put T o.dst (.v undef)/\H1=H/\n1=n)):=by
 obtain ⟨dst,op,ty,pos,after,guard⟩:=o
 change (Option.rec .fail (fun g=>Bool.rec (k (put T dst (.v undef)) H n)
    (RV.rec .fail (fun v H n=>k (put T dst v) H n) (zFY op E call T H n)) g) (zBj ops T guard):Res)=_ at h
 cases hg:zBj ops T guard with
 | none=>rw [hg] at h;cases h
 | some g=>
  rw [hg] at h;cases g
  ·exact ⟨_,_,_,h,.inr ⟨rfl,rfl,rfl,rfl⟩⟩
  ·change (RV.rec .fail (fun v H n=>k (put T dst v) H n) (zFY op E call T H n):Res)=_ at h
   cases he:zFY op E call T H n with
   | fail=>rw [he] at h;cases h
   | ok v H1 n1=>
    rw [he] at h;exact ⟨_,_,_,h,.inl ⟨rfl,v,rfl,rfl⟩⟩
theorem zGm (hc:zBd call) {o:Oper}{T:Tm}{H:Hp}{n:Nat}{k:Tm->Hp->Nat->Res}{x:Ex}{T':Tm}{H':Hp}{n':Nat}(h:zGl E call ops o T H n k=.ok x T' H' n') (hD:zBc n H)
  (hk:∀T1 H1 n1,k T1 H1 n1=.ok x T' H' n'->zBc n1 H1->zCG n1 H1 n' H'):zCG n H n' H':=by
 obtain ⟨T1,H1,n1,h1,⟨_,v,h2,_⟩ | ⟨_,_,rfl,rfl⟩⟩:=zB5 h
 ·have h3:=zOU hc o.op hD _ _ _ h2
  exact h3.trans (hk _ _ _ h1 h3.desc)
 ·exact hk _ _ _ h1 hD
theorem zD6 (o:Oper) (os:List Oper) (T:Tm) (H:Hp) (n:Nat):zKw E call ops (o::os) T H n=zGl E call ops o T H n (zKw E call ops os):=rfl
theorem zI2 (hc:zBd call):∀ (os:List Oper) {T H n x T' H' n'},zKw E call ops os T H n=.ok x T' H' n'->zBc n H->zCG n H n' H'
 | [],T,H,n,x,T',H',n',h,hD=>by
  injection h with _ _ h3 h4
  subst h3 h4;exact zCG.refl hD
 | o::os,T,H,n,x,T',H',n',h,hD=>by
  rw [zD6] at h;exact zGm hc h hD fun T1 H1 n1 h1 hD1=>zI2 hc os h1 hD1
theorem zDK (o:Oper) (os:List Oper) (i:Nat) (sn:List (Nat×Hp×Hp)) (T:Tm) (H:Hp) (n:Nat) :
  zEx E call ops (o::os) i sn T H n=zGl E call ops o T H n fun T' H' n'=>zEx E call ops os (Nat.succ i) (Bool.rec sn ((i,H,H')::sn) (Nat.beq (zAe o.op) 3)) T' H' n':=rfl
theorem zD5 (i:Nat) (sn:List (Nat×Hp×Hp)) (T:Tm) (H:Hp) (n:Nat) :
  zEx E call ops [] i sn T H n=(Bool.rec .fail (.ok .nrm T H n) (List.rec (motive:=fun _=>Bool) true (fun p _ ih=>Bool.rec false ih (zBa E ops T sn p)) (zF8 ops)):Res):=rfl
theorem zJb (hc:zBd call):∀ (os:List Oper) {i sn T H n x T' H' n'},zEx E call ops os i sn T H n=.ok x T' H' n'->zBc n H->zCG n H n' H'
 | [],i,sn,T,H,n,x,T',H',n',h,hD=>by
  rw [zD5] at h;generalize (List.rec (motive:=fun _=>Bool) true (fun p _ ih=>Bool.rec false ih (zBa E ops T sn p)) (zF8 ops):Bool)=t at h;cases t
  ·cases h
  ·injection h with _ _ h3 h4
   subst h3 h4;exact zCG.refl hD
 | o::os,i,sn,T,H,n,x,T',H',n',h,hD=>by
  rw [zDK] at h;exact zGm hc h hD fun T1 H1 n1 h1 hD1=>zJb hc os h1 hD1
theorem zE2 {mode n0:Nat}{v:AV}{H:Hp}{n:Nat}{v':AV}{H':Hp}{n':Nat}(h:zGs mode n0 v H n=.ok v' H' n'):v' = v/\n' = n/\(H' = H\/H' = zKz H n0\/∃l,H' = zDo H n0 l):=by
 unfold zGs at h;cases h0:Nat.beq mode 0
 ·rw [h0] at h
  cases h1:Nat.beq mode 1
  ·rw [h1] at h
   injection h with e1 e2 e3
   exact ⟨e1.symm,e3.symm,.inr (.inr ⟨_,e2.symm⟩)⟩
  ·rw [h1] at h
   injection h with e1 e2 e3
   exact ⟨e1.symm,e3.symm,.inr (.inl e2.symm)⟩
 ·rw [h0] at h
  injection h with e1 e2 e3
  exact ⟨e1.symm,e3.symm,.inl e2.symm⟩
theorem zMq {mode n0:Nat}{v:AV}{H:Hp}{n:Nat}{v':AV}{H':Hp}{n':Nat}(h:zGs mode n0 v H n=.ok v' H' n') (hD:zBc n H):zBc n' H':=by
 obtain ⟨_,rfl,rfl | rfl | ⟨l,rfl⟩⟩:=zE2 h
 ·exact hD
 ·exact hD.drop _
 ·exact hD.keep _ _
theorem zGt {mode n0:Nat}{v:AV}{H:Hp}{n:Nat}{v':AV}{H':Hp}{n':Nat}(h:zGs mode n0 v H n=.ok v' H' n') (hD:zBc n H):∀j hb,hget H' j=some hb->hget H j=some hb:=by
 obtain ⟨_,rfl,rfl | rfl | ⟨l,rfl⟩⟩:=zE2 h
 ·exact fun _ _ e=>e
 ·exact fun j hb e=>zN7 hD _ j hb e
 ·exact fun j hb e=>zN8 hD _ _ j hb e
theorem zQl (hc:zBd call) {ops:Array Oper}{draw:Bool}{T:Tm}{H:Hp}{n:Nat}{x:Ex}{T':Tm}{H':Hp}{n':Nat}(h:zHa E call ops draw T H n=.ok x T' H' n') (hD:zBc n H):zCG n H n' H':=by
 unfold zHa at h;cases draw
 ·exact zI2 hc _ h hD
 ·dsimp only at h
  cases hd:zGj ops.toList
  ·rw [hd] at h;cases h
  ·rw [hd] at h
   exact zJb hc _ h hD
end
section
variable {B:Big}{ev:Ev B.E}
theorem zLi {fd:FD B.E}{args:List AV}{H:Hp}{n:Nat}{v:AV}{H':Hp}{n':Nat}(h:enter B ev fd args H n=.ok v H' n') :
  ∃x T1 H1 vs,(x=.nrm\/x=.ret)/\∃n1,ev fd.D fd.cc (zDg fd.D args 0) H n=.ok x T1 H1 n1/\zHc B.E T1 H1 fd.fn.results.toList=some vs/\zGs fd.gc n (one vs) H1 n1=.ok v H' n':=by
 unfold enter at h;cases he:ev fd.D fd.cc (zDg fd.D args 0) H n with
 | fail=>rw [he] at h;cases h
 | ok x T1 H1 n1=>
  rw [he] at h;dsimp only at h;have fin:(x=.nrm\/x=.ret)->(Option.rec .fail (fun vs=>zGs fd.gc n (one vs) H1 n1) (zHc B.E T1 H1 fd.fn.results.toList):RV)=.ok v H' n'->
    ∃x' T2 H2 vs,(x' = .nrm\/x' = .ret)/\∃n2,(Res.ok x T1 H1 n1)=.ok x' T2 H2 n2/\zHc B.E T2 H2 fd.fn.results.toList=some vs/\zGs fd.gc n (one vs) H2 n2=.ok v H' n':=by
   intro hx h;cases hr:zHc B.E T1 H1 fd.fn.results.toList with
   | none=>rw [hr] at h;cases h
   | some vs=>rw [hr] at h;exact ⟨x,T1,H1,vs,hx,n1,rfl,hr,h⟩
  cases x with
  | nrm=>exact fin (.inl rfl) h
  | ret=>exact fin (.inr rfl) h
  | exit=>cases h
def zDF (B:Big):Prop:=∀f args H n r,zJz B f args H n=some r->zAq H n r
theorem zHn (hm:zDF B) (hev:zHg ev):zBd (zEI B ev):=by
 intro f args H n hD v H' n' h;unfold zEI at h;cases hme:zJz B f args H n with
 | some e=>rw [hme] at h;exact hm _ _ _ _ _ hme hD _ _ _ h
 | none=>
 rw [hme] at h;dsimp only at h;cases hn:zSk B f args H with
 | some nf=>rw [hn] at h;exact zAq.same nf hD _ _ _ h
 | none=>
  rw [hn] at h;dsimp only at h;cases hf:PT.get none B.fn f with
  | none=>rw [hf] at h;cases h
  | some fd=>
   rw [hf] at h;dsimp only at h;obtain ⟨x,T1,H1,vs,_,n1,he,_,hg⟩:=zLi h;obtain ⟨h1,h2,h4⟩:=hev _ _ _ _ _ _ _ _ _ he hD;have h3:=zMq hg h2;have h5:=zGt hg h2;obtain ⟨_,rfl,_⟩:=zE2 hg;refine ⟨h1,h3,fun id hi e=>?_⟩;cases hx:hget H' id with
   | none=>rfl
   | some x=>
    have h6:=h4 id hi e;rw [h5 id x hx] at h6;cases h6
theorem zP8 (hm:zDF B) (hev:zHg ev):zHg (evF B ev):=by
 intro D c T H n x T' H' n' h hD;have hc:zBd (zEI B ev):=zHn hm hev;cases c
 case skip=>injection h with _ _ h3 h4;subst h3 h4;exact zCG.refl hD
 case exit=>injection h with _ _ h3 h4;subst h3 h4;exact zCG.refl hD
 case ret=>injection h with _ _ h3 h4;subst h3 h4;exact zCG.refl hD
 case label=>injection h with _ _ h3 h4;subst h3 h4;exact zCG.refl hD
 case scope b=>exact hev _ _ _ _ _ _ _ _ _ h hD
 case cond c a b=>
  unfold evF at h;dsimp only at h
  try unfold zMm at h
  try unfold zFV at h
  try unfold zC4 at h
  try unfold zFW at h
  split at h
  ·rename_i t _
   cases t <;> exact hev _ _ _ _ _ _ _ _ _ h hD
  ·cases h
 case seq a b=>
  unfold evF at h;dsimp only at h
  try unfold zMm at h
  try unfold zFV at h
  try unfold zC4 at h
  try unfold zFW at h
  cases he:ev D a T H n with
  | fail=>rw [he] at h;cases h
  | ok y T1 H1 n1=>
   rw [he] at h;have h0:=hev _ _ _ _ _ _ _ _ _ he hD;have h2:=h0.desc;cases y with
   | nrm=>exact h0.trans (hev _ _ _ _ _ _ _ _ _ h h2)
   | ret=>injection h with _ _ h3 h4;subst h3 h4;exact h0
   | exit=>injection h with _ _ h3 h4;subst h3 h4;exact h0
 case loop b=>
  unfold evF at h;dsimp only at h
  try unfold zMm at h
  try unfold zFV at h
  try unfold zC4 at h
  try unfold zFW at h
  cases he:ev D b T H n with
  | fail=>rw [he] at h;cases h
  | ok y T1 H1 n1=>
   rw [he] at h;have h0:=hev _ _ _ _ _ _ _ _ _ he hD;have h2:=h0.desc;cases y with
   | nrm=>exact h0.trans (hev _ _ _ _ _ _ _ _ _ h h2)
   | ret=>injection h with _ _ h3 h4;subst h3 h4;exact h0
   | exit=>injection h with _ _ h3 h4;subst h3 h4;exact h0
 case block id b=>
  unfold evF at h;dsimp only at h
  try unfold zMm at h
  try unfold zFV at h
  try unfold zC4 at h
  try unfold zFW at h
  cases he:ev D b T H n with
  | fail=>rw [he] at h;cases h
  | ok y T1 H1 n1=>
   rw [he] at h;have h0:=hev _ _ _ _ _ _ _ _ _ he hD;have h2:=h0.desc;cases y with
   | nrm=>injection h with _ _ h3 h4;subst h3 h4;exact h0
   | ret=>injection h with _ _ h3 h4;subst h3 h4;exact h0
   | exit i=>
    dsimp only at h;cases hi:Nat.beq i id
    ·rw [hi] at h;injection h with _ _ h3 h4;subst h3 h4;exact h0
    ·rw [hi] at h;injection h with _ _ h3 h4;subst h3 h4;exact h0
 case reg id ops draw r hr=>
  obtain ⟨_,_,T1,h1,_⟩:=hr _ _ _ _ _ _ _ _ h;exact zQl hc h1 hD
 case bad=>cases h
theorem zFX (hm:zDF B):∀fuel,zHg (Go.Proofs.YtngjhigieajkmaaGreatDoor.ev B fuel)
 | 0=>fun _ _ _ _ _ _ _ _ _ h=>by cases h
 | fuel+1=>zP8 hm (zFX hm fuel)
def zKe (D:Nat) (T:Tm):Prop:=∀t,inD D t=true->look T t=.any
theorem zJ6 (D:Nat):∀ (es T:Tm),zG6 D es.length (es++T)=es.filter (fun p=>!inD D p.1)++T
 | [],T=>rfl
 | p::es,T=>by
  show (Bool.rec (p::zG6 D es.length (es++T)) (zG6 D es.length (es++T)) (inD D p.1):Tm)=_
  rw [zJ6 D es T,List.filter_cons];cases inD D p.1 <;> rfl
theorem zH8 {D:Nat}{es T:Tm}(hn:zKe D T) (t:Nat):look (es.filter (fun p=>!inD D p.1)++T) t=if inD D t=true then .any else look (es++T) t:=by
 induction es with
 | nil=>
  by_cases h:inD D t=true
  ·rw [if_pos h];exact hn t h
  ·rw [if_neg h];rfl
 | cons p es ih=>
  rw [List.filter_cons];cases hp:inD D p.1
  ·simp only [Bool.not_false,if_true,List.cons_append]
   rw [zBO,zBO,ih];by_cases e:p.1=t
   ·rw [if_pos e,if_pos e,if_neg (by rw [<- e,hp];simp)]
   ·rw [if_neg e,if_neg e]
  ·simp only [Bool.not_true,Bool.false_eq_true,if_false,List.cons_append]
   rw [ih];by_cases h:inD D t=true
   ·rw [if_pos h,if_pos h]
   ·rw [if_neg h,if_neg h,zBO,if_neg (fun e=>h (by rw [<- e,hp]))]
theorem zKA (T:Tm) (dst:Option Nat) (v:AV):∃es:Tm,Go.Proofs.YtngjhigieajkmaaGreatDoor.put T dst v=es++T/\es.length=(Option.rec 0 (fun _=>1) dst:Nat):=by
 cases dst with
 | none=>exact ⟨[],rfl,rfl⟩
 | some d=>exact ⟨[(d,v)],rfl,rfl⟩
theorem zGh (o:Oper) (os:List Oper):zGg (o::os)=zGg os+(Option.rec 0 (fun _=>1) o.dst:Nat):=by
 unfold zGg;cases h:o.dst <;> simp [h]
theorem zFt {E:Env}{call:zAr}{ops:List Oper}{o:Oper}{T:Tm}{H:Hp}{n:Nat}{k:Tm->Hp->Nat->Res}{x:Ex}{T':Tm}{H':Hp}{n':Nat}(h:zGl E call ops o T H n k=.ok x T' H' n') :
  ∃es H1 n1,k (es++T) H1 n1=.ok x T' H' n'/\es.length=(Option.rec 0 (fun _=>1) o.dst:Nat):=by
 obtain ⟨T1,H1,n1,h1,⟨_,v,_,rfl⟩ | ⟨_,rfl,_,_⟩⟩:=zB5 h
 ·obtain ⟨es,e,hl⟩:=zKA T o.dst v
  rw [e] at h1;exact ⟨es,H1,n1,h1,hl⟩
 ·obtain ⟨es,e,hl⟩:=zKA T o.dst (.v undef)
  rw [e] at h1;exact ⟨es,H1,n1,h1,hl⟩
theorem zKM {E:Env}{call:zAr}{ops:List Oper}:∀ (os:List Oper) {T:Tm}{H:Hp}{n:Nat}{x:Ex}{T':Tm}{H':Hp}{n':Nat},zKw E call ops os T H n=.ok x T' H' n'->∃es,T' = es++T/\es.length=zGg os
 | [],T,H,n,x,T',H',n',h=>by injection h with _ h2;exact ⟨[],h2.symm,rfl⟩
 | o::os,T,H,n,x,T',H',n',h=>by
  rw [zD6] at h;obtain ⟨es,H1,n1,h1,hl⟩:=zFt h;obtain ⟨fs,rfl,hf⟩:=zKM os h1;exact ⟨fs++es,by simp,by rw [zGh,Yu,hf,hl]⟩
theorem zHr {E:Env}{call:zAr}{ops:List Oper}:∀ (os:List Oper) {i:Nat}{sn:List (Nat×Hp×Hp)}{T:Tm}{H:Hp}{n:Nat}{x:Ex}{T':Tm}{H':Hp}{n':Nat},zEx E call ops os i sn T H n=.ok x T' H' n'->∃es,T' = es++T/\es.length=zGg os
 | [],i,sn,T,H,n,x,T',H',n',h=>by
  rw [zD5] at h;generalize (List.rec (motive:=fun _=>Bool) true (fun p _ ih=>Bool.rec false ih (zBa E ops T sn p)) (zF8 ops):Bool)=t at h;cases t
  ·cases h
  ·injection h with _ h2;exact ⟨[],h2.symm,rfl⟩
 | o::os,i,sn,T,H,n,x,T',H',n',h=>by
  rw [zDK] at h;obtain ⟨es,H1,n1,h1,hl⟩:=zFt h;obtain ⟨fs,rfl,hf⟩:=zHr os h1;exact ⟨fs++es,by simp,by rw [zGh,Yu,hf,hl]⟩
theorem zKD {E:Env}{call:zAr}{ops:Array Oper}{draw:Bool}{T:Tm}{H:Hp}{n:Nat}{x:Ex}{T':Tm}{H':Hp}{n':Nat}(h:zHa E call ops draw T H n=.ok x T' H' n'):∃es,T' = es++T/\es.length=zGg ops.toList:=by
 unfold zHa at h;cases draw
 ·exact zKM _ h
 ·dsimp only at h
  cases hd:zGj ops.toList
  ·rw [hd] at h;cases h
  ·rw [hd] at h
   exact zHr _ h
theorem zKC {E:Env}{D:Nat}{r:CR}{ops:Array Oper}{draw:Bool}(hr:zR0 E D r ops draw) {call:zAr}{T:Tm}{H:Hp}{n:Nat}{x:Ex}{T':Tm}{H':Hp}{n':Nat}(h:r call T H n=.ok x T' H' n') (hn:zKe D T) :
  zKe D T'/\∃ops',(ops' = ops\/draw=true/\ztG ops ops')/\∃T1,zHa E call ops' draw T H n=.ok x T1 H' n'/\∀t,look T' t=look T1 t\/look T' t=.any:=by
 obtain ⟨ops',hp,T1,h1,rfl⟩:=hr _ _ _ _ _ _ _ _ h;obtain ⟨es,rfl,hl⟩:=zKD h1;rw [<- hl,zJ6];refine ⟨fun t ht=>by rw [zH8 hn,if_pos ht],ops',hp,_,h1,fun t=>?_⟩;rw [zH8 hn];by_cases ht:inD D t=true
 ·rw [if_pos ht];exact .inr rfl
 ·rw [if_neg ht];exact .inl rfl
def zPm {E:Env}(ev:Ev E):Prop:=∀D c T H n x T' H' n',ev D c T H n=.ok x T' H' n'->zKe D T->zKe D T'
theorem zSH (hk:zPm ev):zPm (evF B ev):=by
 intro D c T H n x T' H' n' h hn;cases c
 case skip=>injection h with _ h2;subst h2;exact hn
 case exit=>injection h with _ h2;subst h2;exact hn
 case ret=>injection h with _ h2;subst h2;exact hn
 case label=>injection h with _ h2;subst h2;exact hn
 case scope b=>exact hk _ _ _ _ _ _ _ _ _ h hn
 case cond c a b=>
  unfold evF at h;dsimp only at h
  try unfold zMm at h
  try unfold zFV at h
  try unfold zC4 at h
  try unfold zFW at h
  split at h
  ·rename_i t _
   cases t <;> exact hk _ _ _ _ _ _ _ _ _ h hn
  ·cases h
 case seq a b=>
  unfold evF at h;dsimp only at h
  try unfold zMm at h
  try unfold zFV at h
  try unfold zC4 at h
  try unfold zFW at h
  cases he:ev D a T H n with
  | fail=>rw [he] at h;cases h
  | ok y T1 H1 n1=>
   rw [he] at h;have h0:=hk _ _ _ _ _ _ _ _ _ he hn;cases y with
   | nrm=>exact hk _ _ _ _ _ _ _ _ _ h h0
   | ret=>injection h with _ h2;subst h2;exact h0
   | exit=>injection h with _ h2;subst h2;exact h0
 case loop b=>
  unfold evF at h;dsimp only at h
  try unfold zMm at h
  try unfold zFV at h
  try unfold zC4 at h
  try unfold zFW at h
  cases he:ev D b T H n with
  | fail=>rw [he] at h;cases h
  | ok y T1 H1 n1=>
   rw [he] at h;have h0:=hk _ _ _ _ _ _ _ _ _ he hn;cases y with
   | nrm=>exact hk _ _ _ _ _ _ _ _ _ h h0
   | ret=>injection h with _ h2;subst h2;exact h0
   | exit=>injection h with _ h2;subst h2;exact h0
 case block id b=>
  unfold evF at h;dsimp only at h
  try unfold zMm at h
  try unfold zFV at h
  try unfold zC4 at h
  try unfold zFW at h
  cases he:ev D b T H n with
  | fail=>rw [he] at h;cases h
  | ok y T1 H1 n1=>
   rw [he] at h;have h0:=hk _ _ _ _ _ _ _ _ _ he hn;cases y with
   | nrm=>injection h with _ h2;subst h2;exact h0
   | ret=>injection h with _ h2;subst h2;exact h0
   | exit i=>
    dsimp only at h;cases hi:Nat.beq i id
    ·rw [hi] at h;injection h with _ h2;subst h2;exact h0
    ·rw [hi] at h;injection h with _ h2;subst h2;exact h0
 case reg id ops draw r hr=>exact (zKC hr h hn).1
 case bad=>cases h
theorem zN2:∀fuel,zPm (Go.Proofs.YtngjhigieajkmaaGreatDoor.ev B fuel)
 | 0=>fun _ _ _ _ _ _ _ _ _ h=>by cases h
 | fuel+1=>zSH (zN2 fuel)
end
def zLk:Ex->Exit->Prop
 | .nrm,e=>e=.normal
 | .ret,e=>e=.ret
 | .exit i,e=>e=.exit i
def zDb (G:Gl) (ι:Io) (fz:Nat->Prop) (H:Hp) (n:Nat) (w:World) (a:Act) (T':Tm) (H':Hp) (n':Nat) (a':Act) (w':World):Prop:=
 a'.tmps.size=a.tmps.size/\a'.defers=a.defers/\∃ι' fz',zB1 G ι fz (hget H) n w ι' fz' (hget H') n' w'/\zFN ι' fz' w' T' a'
section
variable {P:Program}{G:Gl}{E:Env}{ι:Io}{fz:Nat->Prop}{H:Hp}{n:Nat}{w:World}{T:Tm}{call:zAr}{ops:Array Oper}
theorem zGx {o:Oper}{a:Act}{t:Bool}(hg:zBj ops.toList T o.guard=some t) (hr:∀j want oj d,o.guard=some (j,want)->ops[j]? = some oj->oj.dst=some d->Rel ι fz w (look T d) (a.tmps.getD d undef)) :
  Region.wanted o (yielded ops a.tmps)=t:=by
 unfold Region.wanted;unfold zBj at hg;cases hgu:o.guard with
 | none=>rw [hgu] at hg;injection hg
 | some p=>
  obtain ⟨j,want⟩:=p;rw [hgu] at hg;dsimp only at hg ⊢;rw [zE9] at hg;simp only [Array.getElem?_toList] at hg;cases hj:ops[j]? with
  | none=>
   rw [hj] at hg;injection hg with hg
   subst hg;simp [yielded,hj]
  | some oj=>
   rw [hj] at hg;dsimp only at hg;cases hd:oj.dst with
   | none=>
    rw [hd] at hg;injection hg with hg
    subst hg;simp [yielded,hj,hd]
   | some d=>
    rw [hd] at hg;dsimp only at hg;have hrel:=hr j want oj d hgu hj hd;have hy:yielded ops a.tmps j=(match a.tmps[d]? with | some (.bool b)=>some b | _=>none):=by
     simp only [yielded,hj,Option.bind_some,hd];cases a.tmps[d]? with
     | none=>rfl
     | some q=>cases q <;> rfl
    rw [hy]
    split at hg
    ·rename_i b e
     rw [e] at hrel;generalize hv:a.tmps.getD d undef=v at hrel;cases hrel;have:a.tmps[d]? = some (.bool b):=by
      rw [Array.getD_eq_getD_getElem?] at hv;cases hq:a.tmps[d]? with
      | none=>rw [hq] at hv;simp [undef] at hv
      | some q=>rw [hq] at hv;simp at hv;rw [hv]
     rw [this];injection hg with hg
     subst hg;cases b <;> cases want <;> rfl
    ·rename_i vs e
     rw [e] at hrel;generalize hv:a.tmps.getD d undef=v at hrel;cases hrel;injection hg with hg
     subst hg;rw [Array.getD_eq_getD_getElem?] at hv;cases hq:a.tmps[d]? with
     | none=>rfl
     | some q=>
      rw [hq] at hv;simp at hv;subst hv;rfl
    ·cases hg
theorem zFN.mono {T:Tm}{a:Act}(h:zFN ι fz w T a) {ι':Io}{fz':Nat->Prop}{w':World}(hι:∀i p,ι i=some p->ι' i=some p) (hf:∀b,fz b->fz' b) (hw:∀b,fz b->w'.heap[b]? = w.heap[b]?):zFN ι' fz' w' T a:=
 fun t=>(h t).mono hι hf hw
theorem zO6:∀ (os:List Oper) {T H n x T' H' n'},zKw E call ops.toList os T H n=.ok x T' H' n'->x=.nrm
 | [],T,H,n,x,T',H',n',h=>by injection h with h1;exact h1.symm
 | o::os,T,H,n,x,T',H',n',h=>by
  rw [zD6] at h;obtain ⟨T1,H1,n1,h1,_⟩:=zB5 h;exact zO6 os h1
theorem zLg:∀ (os:List Oper) {i sn T H n x T' H' n'},zEx E call ops.toList os i sn T H n=.ok x T' H' n'->x=.nrm
 | [],i,sn,T,H,n,x,T',H',n',h=>by
  rw [zD5] at h;generalize (List.rec (motive:=fun _=>Bool) true (fun p _ ih=>Bool.rec false ih (zBa E ops.toList T sn p)) (zF8 ops.toList):Bool)=t at h;cases t
  ·cases h
  ·injection h with h1;exact h1.symm
 | o::os,i,sn,T,H,n,x,T',H',n',h=>by
  rw [zDK] at h;obtain ⟨T1,H1,n1,h1,_⟩:=zB5 h;exact zLg os h1
theorem zO7 (hE:zBV P E) (hC:zDV P G call) (hM:zBd call):∀ (os:List Oper),(∀o∈os,o∈ops.toList)->∀ {ι fz H n w T x T' H' n'}{a:Act},zKw E call ops.toList os T H n=.ok x T' H' n'->
  zFN ι fz w T a->Inv G ι fz (hget H) w->zBc n H->(∀i,n<=i->i<n'->ι i=none)->(∀o∈os,∀d,o.dst=some d->d<a.tmps.size)->
  ∀ {Q:Exit->Act->World->Prop},(∀a' w',zDb G ι fz H n w a T' H' n' a' w'->Q .normal a' w')->wpList P ops Q os a w:=by
 intro os
 induction os with
 | nil=>
  intro _ ι fz H n w T x T' H' n' a h hT hI hD hf hd Q hQ;injection h with h1 h2 h3 h4
  subst h1 h2 h3 h4;exact hQ _ _ ⟨rfl,rfl,ι,fz,zB1.refl hI n,hT⟩
 | cons o os ih=>
  intro hsub ι fz H n w T x T' H' n' a h hT hI hD hf hd Q hQ;rw [zD6] at h;have hd1:∀d,o.dst=some d->d<a.tmps.size:=hd o (by simp);obtain ⟨T1,H1,n1,h1,⟨hg,v,h2,rfl⟩ | ⟨hg,rfl,rfl,rfl⟩⟩:=zB5 h
  ·obtain ⟨hn1,hD1⟩:=zOU hM o.op hD _ _ _ h2
   obtain ⟨hn2,_⟩:=zI2 hM os h1 hD1;have hs:=zD7 (o:=o) (a:=a) hE hC hI hD (fun x _=>zL6 hT x) v H1 n1 h2 (fun i h3 h4=>hf i h3 (by omega));have hw:Region.wanted o (yielded ops a.tmps)=true:=zGx hg fun j want oj d _ _ _=>hT d
   unfold wpList;simp only [hw,if_true];refine .inl (hs _ _ ?_);rintro u w' ⟨ι',fz',hp,hr⟩
   have hT1:zFN ι' fz' w' (Go.Proofs.YtngjhigieajkmaaGreatDoor.put T o.dst v) (a.put o.dst u):=zFN.put (hT.mono hp.ext hp.fzm (hp.fz_same hI)) hd1 hr;exact ih (fun o ho=>hsub o (by simp [ho])) h1 hT1 hp.inv hD1 (fun i h3 h4=>by rw [hp.out i (.inr h3)];exact hf i (by omega) h4) (fun o' ho' d e=>by rw [zFC];exact hd o' (by simp [ho']) d e)
    fun a' w'' ⟨g1,g2,ι2,fz2,hp2,hT2⟩=>hQ _ _ ⟨by rw [g1,zFC],by rw [g2,zFh],ι2,fz2,hp.trans hp2 hn1 hn2,hT2⟩
  ·have hw:Region.wanted o (yielded ops a.tmps)=false:=zGx hg fun j want oj d _ _ _=>hT d
   have hT1:zFN ι fz w (Go.Proofs.YtngjhigieajkmaaGreatDoor.put T o.dst (.v undef)) (a.put o.dst undef):=zFN.put hT hd1 (.v undef);unfold wpList;simp only [hw,Bool.false_eq_true,if_false];exact ih (fun o ho=>hsub o (by simp [ho])) h1 hT1 hI hD hf (fun o' ho' d e=>by rw [zFC];exact hd o' (by simp [ho']) d e)
    fun a' w'' ⟨g1,g2,r⟩=>hQ _ _ ⟨by rw [g1,zFC],by rw [g2,zFh],r⟩
end
theorem zRh {α:Type}{p:List α->Prop}(h0:p []) (h1:∀l a,p l->p (l++[a])) (l:List α):p l:=by
 have:∀l:List α,p l.reverse:=fun l=>by
  induction l with
  | nil=>exact h0
  | cons a l ih=>rw [List.reverse_cons];exact h1 _ _ ih
 have:=this l.reverse
 rwa [List.reverse_reverse] at this
abbrev bnd (e:Edge):Bool:=Region.binds .any e
def zFQ (acc:List Nat) (o:Oper):Nat:=o.after.toList.foldl (fun s e=>if bnd e then s ||| 2^e.on ||| (acc.reverse.getD e.on 0) else s) 0
theorem zMd (l:List Oper):zAp l=(l.foldl (fun acc o=>zFQ acc o::acc) []).reverse:=rfl
theorem zFq (l:List Oper) (o:Oper):zAp (l++[o])=zAp l++[zFQ (zAp l).reverse o]:=by
 simp only [zMd,List.foldl_append,List.foldl_cons,List.foldl_nil,List.reverse_cons,List.reverse_reverse]
theorem zNg (f:Nat->Nat) (i:Nat):∀ (es:List Edge) (s:Nat),(es.foldl (fun s e=>if bnd e then s ||| 2^e.on ||| f e.on else s) s).testBit i=true->s.testBit i=true\/∃e∈es,bnd e=true/\(e.on=i\/(f e.on).testBit i=true)
 | [],s,h=>.inl h
 | e::es,s,h=>by
  rw [List.foldl_cons] at h;rcases zNg f i es _ h with h1 | ⟨e',h1,h2,h3⟩
  ·cases hb:bnd e
   ·rw [hb] at h1
    simp at h1;exact .inl h1
   ·rw [hb] at h1
    simp only [if_true,Nat.testBit_or,Bool.or_eq_true] at h1;rcases h1 with (h1 | h1) | h1
    ·exact .inl h1
    ·rw [Nat.testBit_two_pow] at h1
     exact .inr ⟨e,by simp,hb,.inl (by simpa using h1)⟩
    ·exact .inr ⟨e,by simp,hb,.inr h1⟩
  ·exact .inr ⟨e',by simp [h1],h2,h3⟩
theorem zEY:∀l:List Oper,(zAp l).length=l.length:=by
 intro l;refine zRh (p:=fun l=>(zAp l).length=l.length) rfl (fun l o ih=>?_) l;rw [zFq];simp [ih]
theorem zEX:∀ (l:List Oper) (j:Nat) (o:Oper) (i:Nat),l[j]? = some o->((zAp l).getD j 0).testBit i=true->∃e∈o.after.toList,bnd e=true/\(e.on=i\/(e.on<j/\((zAp l).getD e.on 0).testBit i=true)):=by
 intro l;refine zRh (p:=fun l=>∀ (j:Nat) (o:Oper) (i:Nat),l[j]? = some o->((zAp l).getD j 0).testBit i=true->∃e∈o.after.toList,bnd e=true/\(e.on=i\/(e.on<j/\((zAp l).getD e.on 0).testBit i=true))) ?_ (fun l o' ih=>?_) l
 ·intro j o i h;simp at h
 ·intro j o i h hb
  rw [zFq] at hb ⊢;by_cases hj:j<l.length
  ·rw [Yw hj] at h
   have hl:=zEY l;have e1:∀k,k<l.length->(zAp l++[zFQ (zAp l).reverse o']).getD k 0=(zAp l).getD k 0:=by
    intro k hk;simp only [List.getD_eq_getElem?_getD];rw [Yw (by omega)]
   rw [e1 j hj] at hb;obtain ⟨e,h1,h2,h3⟩:=ih j o i h hb;refine ⟨e,h1,h2,h3.imp id fun ⟨h4,h5⟩=>⟨h4,?_⟩⟩;rw [e1 _ (by omega)];exact h5
  ·rw [Yx (by omega)] at h
   have hj':j=l.length:=by
    cases hk:j - l.length with
    | zero=>omega
    | succ k=>rw [hk] at h;simp at h
   subst hj';simp at h;subst h;have hl:=zEY l;have e2:(zAp l++[zFQ (zAp l).reverse o']).getD l.length 0=zFQ (zAp l).reverse o':=by
    simp only [List.getD_eq_getElem?_getD];rw [Yx (by omega),hl];simp
   rw [e2] at hb;unfold zFQ at hb;rw [List.reverse_reverse] at hb;rcases zNg (fun k=>(zAp l).getD k 0) i _ _ hb with h1 | ⟨e,h1,h2,h3⟩
   ·simp at h1
   ·refine ⟨e,h1,h2,h3.imp id fun h4=>?_⟩
    have hlt:e.on<l.length:=by
     by_cases hh:e.on<(zAp l).length
     ·omega
     ·rw [List.getD_eq_getElem?_getD,Yy (by omega)] at h4
      simp at h4
    refine ⟨hlt,?_⟩;simp only [List.getD_eq_getElem?_getD] at h4 ⊢;rw [Yw (by omega)];exact h4
def zNU (l:List Oper) (L:Nat->Prop):Prop:=∀j o,l[j]? = some o->L j->∀e∈o.after.toList,bnd e=true->L e.on
theorem zHl {l:List Oper}{L:Nat->Prop}(hL:zNU l L):∀ (j i:Nat),L j->(∃o,l[j]? = some o)->((zAp l).getD j 0).testBit i=true->L i:=by
 intro j
 induction j using Nat.strongRecOn with
 | _ j ih=>
  intro i hj ⟨o,ho⟩ hb;obtain ⟨e,h1,h2,h3⟩:=zEX l j o i ho hb;have h4:=hL j o ho hj e h1 h2;rcases h3 with rfl | ⟨h5,h6⟩
  ·exact h4
  ·refine ih e.on h5 i h4 ?_ h6
   have:e.on<l.length:=by
    have:=(Yb.1 ho).1;omega
   exact ⟨l[e.on],by simp [this]⟩
theorem zEs {l:List Oper}{L:Nat->Prop}(hL:zNU l L) {j:Nat}{o:Oper}(ho:l[j]? = some o) (hr:∀e∈o.after.toList,bnd e=true->L e.on) (i:Nat) (hb:((zAp l).getD j 0).testBit i=true):L i:=by
 obtain ⟨e,h1,h2,h3⟩:=zEX l j o i ho hb;rcases h3 with rfl | ⟨h5,h6⟩
 ·exact hr e h1 h2
 ·refine zHl hL e.on i (hr e h1 h2) ?_ h6
  have:e.on<l.length:=by
   have:=(Yb.1 ho).1;omega
  exact ⟨l[e.on],by simp [this]⟩
theorem zRE {l:List Oper}(hlt:∀j o,l[j]? = some o->∀e∈o.after.toList,bnd e=true->e.on<j):∀ (j i:Nat),((zAp l).getD j 0).testBit i=true->i<j:=by
 intro j
 induction j using Nat.strongRecOn with
 | _ j ih=>
  intro i hb;by_cases hj:j<l.length
  ·obtain ⟨e,h1,h2,h3⟩:=zEX l j l[j] i (by simp [hj]) hb
   have h4:=hlt j l[j] (by simp [hj]) e h1 h2;rcases h3 with rfl | ⟨h5,h6⟩
   ·exact h4
   ·have:=ih _ h5 i h6
    omega
  ·rw [List.getD_eq_getElem?_getD,Yy (by rw [zEY];omega)] at hb
   simp at hb
theorem zBG {l:List Oper}{p:Oper×Nat->Bool}(h:l.zipIdx.all p=true) {j:Nat}{o:Oper}(ho:l[j]? = some o):p (o,j)=true:=by
 rw [List.all_eq_true] at h;refine h (o,j) ?_;rw [List.mem_zipIdx_iff_getElem?];exact ho
theorem zMb {l:List Oper}{p:Oper×Nat->Bool}(h:l.zipIdx.any p=true):∃j o,l[j]? = some o/\p (o,j)=true:=by
 rw [List.any_eq_true] at h;obtain ⟨⟨o,j⟩,h1,h2⟩:=h;rw [List.mem_zipIdx_iff_getElem?] at h1;exact ⟨j,o,h1,h2⟩
structure zWS (l:List Oper):Prop where
 back:∀ (j:Nat) (o:Oper),l[j]? = some o->∀e∈o.after.toList,bnd e=true->e.on<j
 once:∀ (j:Nat) (o:Oper) (i:Nat) (p:Oper) (d:Nat),l[j]? = some o->l[i]? = some p->i≠j->p.dst=some d->o.dst≠some d
 sure:∀ (j:Nat) (o:Oper) (i:Nat) (p:Oper) (d:Nat),l[j]? = some o->l[i]? = some p->i≠j->p.dst=some d->d∈zCC l o->(∃e∈o.after.toList,bnd e=true/\e.on=i)\/(∃e∈p.after.toList,bnd e=true/\e.on=j)
 chain:∀ (j:Nat) (o:Oper) (i:Nat) (p:Oper),l[j]? = some o->zAe o.op=3->l[i]? = some p->i<j->zAe p.op=3->((zAp l).getD j 0).testBit i=true
 make:∀ (j:Nat) (o:Oper) (i:Nat) (p:Oper),l[j]? = some o->zAe o.op=3->l[i]? = some p->i<j->zAe p.op=2->((zAp l).getD j 0).testBit i=true\/∃k q,l[k]? = some q/\i<k/\k<j/\zAe q.op=3
 late:∀ (j:Nat) (o:Oper) (i:Nat) (p:Oper) (d:Nat),l[j]? = some o->zAe o.op=1->l[i]? = some p->j<=i->p.dst=some d->d ∉ zCC l o
 loo:∀ (j:Nat) (o:Oper) (i:Nat) (p:Oper),l[j]? = some o->zAe o.op=1->l[i]? = some p->zAe p.op=3->((zAp l).getD j 0).testBit i=false->((zAp l).getD i 0).testBit j=false->(j,i)∈zF8 l
theorem zGy {o:Oper}{i:Nat}(h:zIg o i=true):∃e∈o.after.toList,bnd e=true/\e.on=i:=by
 unfold zIg at h;rw [List.any_eq_true] at h;obtain ⟨e,h1,h2⟩:=h;simp only [Yi,beq_iff_eq] at h2;exact ⟨e,h1,h2.2,h2.1⟩
theorem zTR {l:List Oper}(h:zGj l=true):zWS l:=by
 unfold zGj at h;simp only [Yi] at h;obtain ⟨⟨h1,h2⟩,h3⟩:=h;unfold zPG at h1;unfold zNp at h2;unfold zRY at h3;refine ⟨fun j o ho e he hb=>?_,fun j o i p d ho hp hij hd=>?_,fun j o i p d ho hp hij hd hl=>?_,fun j o i p ho hk hp hij hkp=>?_,fun j o i p ho hk hp hij hkp=>?_,fun j o i p d ho hk hp hij hd=>?_,fun j o i p ho hk hp hkp hb1 hb2=>?_⟩
 ·have:=zBG h1 ho
  simp only [Yi,List.all_eq_true] at this;have:=this.1 e he;rw [show Region.binds .any e=true from hb] at this
  simpa [Nat.blt_eq] using this
 ·have:=zBG h1 ho
  simp only [Yi] at this;have:=zBG this.2 hp;simp only [hd] at this;simp only [Bool.or_eq_true,beq_iff_eq,hij,false_or,Yi,bne_iff_ne] at this;exact this.1
 ·have:=zBG h1 ho
  simp only [Yi] at this;have:=zBG this.2 hp;simp only [hd] at this;simp only [Bool.or_eq_true,beq_iff_eq,hij,false_or,Yi,bne_iff_ne,List.all_eq_true] at this;rcases this.2 d hl with (h4 | h4) | h4
  ·exact absurd rfl h4
  ·exact .inl (zGy h4)
  ·exact .inr (zGy h4)
 ·have:=zBG h2 ho
  simp only [hk,bne_self_eq_false,Bool.false_or] at this;have:=zBG this hp;have hlt:Nat.blt i j=true:=by simpa [Nat.blt_eq] using hij
  simp only [hlt,hkp,Bool.not_true,Bool.false_or] at this
  simpa using this
 ·have:=zBG h2 ho
  simp only [hk,bne_self_eq_false,Bool.false_or] at this;have:=zBG this hp;have hlt:Nat.blt i j=true:=by simpa [Nat.blt_eq] using hij
  simp only [hlt,hkp,Bool.not_true,Bool.false_or] at this;simp only [Bool.or_eq_true,Yi] at this;rcases this with (h4 | h4) | h4
  ·simp at h4
  ·exact .inl h4
  ·obtain ⟨k,q,h5,h6⟩:=zMb h4.2
   simp only [Yi,Nat.blt_eq,beq_iff_eq] at h6;exact .inr ⟨k,q,h5,h6.1.1,h6.1.2,h6.2⟩
 ·have:=zBG h3 ho
  simp only [hk,bne_self_eq_false,Bool.false_or] at this;have:=zBG this hp;have hlt:Nat.blt i j=false:=by
   cases hq:Nat.blt i j
   ·rfl
   ·rw [Nat.blt_eq] at hq;omega
  simp only [hlt,hd,Bool.false_or,List.all_eq_true,bne_iff_ne] at this;exact fun hm=>this d hm rfl
 ·unfold zF8
  simp only [List.mem_flatMap];refine ⟨(o,j),by rw [List.mem_zipIdx_iff_getElem?];exact ho,?_⟩;simp only [hk,beq_self_eq_true,if_true,List.mem_filterMap];refine ⟨(p,i),by rw [List.mem_zipIdx_iff_getElem?];exact hp,?_⟩;rw [hb1,hb2];simp [hkp]
end Go.Proofs.YtngjhigieajkmaaGreatDoor
end
