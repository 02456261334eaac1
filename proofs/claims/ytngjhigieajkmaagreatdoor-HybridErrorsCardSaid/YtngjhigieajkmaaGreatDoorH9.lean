/- Bundle 9: what the law's walk stands on: Q4, Q5, Q6, Q7, Q8, Q9, Q10, Q11, Q12. -/
import Derived.Laws.CopyRow
import Derived.Laws.MakeOwn
import Derived.Laws.Append
import Derived.ChangeKeysEq
import Derived.Great.BuildSlice
import Derived.Laws.StructEq
import Derived.Test.YtngjhigieajkmaaGreatDoorH8
set_option maxRecDepth 100000
set_option maxHeartbeats 20000000
set_option linter.all false
noncomputable section
namespace Go.Proofs.YtngjhigieajkmaaGreatDoor
open Go.RowKit Pl
def zBZ:TypeDesc->Bool
 | .struct _=>true
 | .array _ _=>true
 | _=>false
def zGS (P:Program) (d:TypeDesc):TC->Prop
 | .other=>zBZ d=false
 | .bool=>d=.bool
 | .int k=>d=.int k
 | .str=>d=.string
 | .ptr=>∃e,d=.pointer e
 | .fnc=>∃a b c,d=.func a b c
 | .ptrM _=>∃e,d=.pointer e
 | .slice e=>d=.slice e
 | .arr n e=>d=.array n e
 | .map k e=>d=.map k e
 | .struct fs=>∃fields:Array Field,d=.struct fields/\fs.length=fields.size/\∀ (j:Nat) (f:Field),fields[j]? = some f->∃i du,P.info? f.type=some i/\P.underlying f.type=some du/\fs[j]? = some (f.offset,i.size,zBZ du)
def zFO (L:TypeId->Nat->Prop):List Field->Nat->Nat->Prop
 | [],o,e=>o=e
 | f::fs,o,e=>f.offset=o/\f.name ≠ "_"/\∃s,L f.type s/\zFO L fs (o+s) e
def zHW (P:Program):Nat->TypeId->Nat->Prop
 | 0,_,_=>False
 | d+1,t,s=>(∃k i,P.underlying t=some (.int k)/\P.info? t=some i/\i.size=1/\s=1)\/
   ∃ (fields:Array Field) (i:TypeInfo),P.underlying t=some (.struct fields)/\P.stoodInHeld t=false/\P.info? t=some i/\i.size=s/\zFO (zHW P d) fields.toList 0 s
structure zMV (P:Program) (t:Nat) (ti:TI):Prop where
 ex:∃i z d,P.info? t=some i/\i.size=ti.size/\i.bytes=ti.bytes/\i.zero=some z/\(∀ι fz w,zA5 ι fz w true ti.zero z.cells.toList)/\ti.zero.length=ti.size/\
  (zBZ d=true->z=.agg z.cells)/\(zBZ d=false->z.cells=#[z])/\P.underlying t=some d/\zGS P d ti.c
 eq:ti.eq=true->P.eqGuardType P.depth t=false/\(∃fields:Array Field,P.underlying t=some (.struct fields))/\zHW P 9 t ti.size
 ms:∀ms,ti.c=.ptrM ms->∀name f,zs1 name ms=some f->∃i m,P.info? t=some i/\i.methods.find? (·.name == name)=some m/\m.path=#[]/\m.func=some (f,true)
theorem zG0 {P:Program}{d:TypeDesc}{c:TC}(h:zGS P d c):zC6 c=zBZ d:=by
 cases c <;> simp only [zGS] at h
 case other=>rw [h];rfl
 case bool=>subst h;rfl
 case int=>subst h;rfl
 case str=>subst h;rfl
 case ptr=>obtain ⟨e,rfl⟩:=h;rfl
 case ptrM=>obtain ⟨e,rfl⟩:=h;rfl
 case fnc=>obtain ⟨_,_,_,rfl⟩:=h;rfl
 case slice=>subst h;rfl
 case arr=>subst h;rfl
 case map=>subst h;rfl
 case struct=>obtain ⟨_,rfl,_⟩:=h;rfl
section
variable {P:Program}
theorem zEE {t:TypeId}{d:TypeDesc}(h:P.underlying t=some d) (w:World):(isAgg t).run P w=.ok (zBZ d) w:=by
 unfold isAgg;rw [Sem.run_bind,run_underlying h];cases d <;> rfl
theorem zDt {t:TypeId}{i:TypeInfo}(h:P.info? t=some i) (w:World):(typeInfo t).run P w=.ok i w:=by
 simp [typeInfo,h]
theorem zAj {t:TypeId}{i:TypeInfo}(h:P.info? t=some i) (w:World):(sizeOf t).run P w=.ok i.size w:=by
 unfold sizeOf;rw [Sem.run_bind,zDt h];rfl
theorem zHE {t:TypeId}{i:TypeInfo}{z:Value}(h:P.info? t=some i) (hz:i.zero=some z) (w:World):(zeroValue t).run P w=.ok z w:=by
 unfold zeroValue;rw [Sem.run_bind,zDt h];simp [hz]
theorem zDu {t:TypeId}{i:TypeInfo}{d:TypeDesc}(hi:P.info? t=some i) (hd:P.underlying t=some d) {w:World}{b o:Nat}{vs:List Value}(hc:zA1 w b o vs) {u:Value}
  (hu:(zBZ d=true/\i.size<=vs.length/\u=.agg (vs.take i.size).toArray)\/(zBZ d=false/\vs[0]? = some u)) :
  (loadVar t ⟨b,o,none⟩).run P w=.ok u w:=by
 unfold loadVar;rw [Sem.run_bind,zEE hd];have hadd:∀j,(⟨b,o,none⟩:Addr).add j=⟨b,o+j,none⟩:=fun j=>add_mk' b o j
 rcases hu with ⟨h1,h2,rfl⟩ | ⟨h1,h2⟩
 ·simp only [Result.andThen_ok,h1,if_true,Sem.run_bind,zAj hi]
  have hl:(vs.take i.size).length=i.size:=by rw [Yr];omega
  have:=run_loadCells_list (P:=P) w ⟨b,o,none⟩ (vs.take i.size) (fun j v hv=>by
   rw [hadd];refine hc j v ?_;by_cases hj:j<i.size
   ·rwa [Xf hj] at hv
   ·rw [List.getElem?_take_eq_none (by omega)] at hv;cases hv)
  rw [hl] at this;rw [this];rfl
 ·simp only [Result.andThen_ok,h1,Bool.false_eq_true,if_false]
  have:=hc 0 u h2;simp only [Nat.add_zero] at this;simp [load,Sem.run,this]
where
 add_mk' (b o j:Nat):(⟨b,o,none⟩:Addr).add j=⟨b,o+j,none⟩:=by
  unfold Addr.add
  split
  ·subst_vars;rfl
  ·rfl
theorem zI1 {t:TypeId}{i:TypeInfo}(hi:P.info? t=some i) {w:World}{b o:Nat}{cur:Array Value}{ty:TypeId}(hg:w.heap[b]? = some (.cells cur ty (0,0))) {v:Value}(hs:v.cells.size=i.size)
  (hl:o+v.cells.size<=cur.size) (h1:∀u∈v.cells.toList,zFv u=true) :
  (storeVar t ⟨b,o,none⟩ v).run P w=.ok () (w.setRow b (cur.toList.take o++v.cells.toList++cur.toList.drop (o+v.cells.size)).toArray):=by
 unfold storeVar;rw [Sem.run_bind,zAj hi];simp only [Result.andThen_ok,hs,ne_eq,not_true_eq_false,if_false,Sem.run_pure];have:=run_storeCells_at (P:=P) b o ty v.cells.toList 0 cur w hg (by simpa using hl) h1
 simpa [hs] using this
end
theorem zB1.new {G:Gl}{ι:Io}{fz:Nat->Prop}{H:Hp}{n:Nat}{w:World}(hI:Inv G ι fz (hget H) w) (hfresh:ι n=none) (hb:HB) (o:Obj) (s:Nat)
  (hk:∀w',w'.heap[w.heap.size]? = some o->(∀b,fz b->w'.heap[b]? = w.heap[b]?)->zJH (fun j=>if j=n then some (w.heap.size,s) else ι j) fz w' w.heap.size s hb) (k:Nat) :
  zB1 G ι fz (hget H) n w (fun j=>if j=n then some (w.heap.size,s) else ι j) fz (hget ((n,hb)::H)) (n+1) { w with heap:=w.heap.push o,drawn:=w.drawn+k }:=by
 have hext:∀i p,ι i=some p->(fun j=>if j=n then some (w.heap.size,s) else ι j) i=some p:=by
  intro i p e;have:i≠n:=fun h=>by subst h;rw [hfresh] at e;cases e
  simpa [this] using e
 have hold:∀b,b<w.heap.size->(w.heap.push o)[b]? = w.heap[b]?:=fun b hb=>by
  rw [Array.getElem?_push]
  split
  ·omega
  ·rfl
 refine ⟨hext,fun i hi=>?_,fun _ h=>h,fun _ h=>.inl h,by simp,fun b hb _=>hold b hb,rfl,rfl,rfl,?_,?_⟩
 ·have:i≠n:=by omega
  simp [this]
 ·rintro b ⟨id,hb',s',e,hi⟩
  rw [zAY] at e;by_cases hid:n=id
  ·subst hid
   simp at hi;exact .inr (by omega)
  ·rw [if_neg hid] at e
   have hid':id≠n:=Ne.symm hid;simp only [hid',if_false] at hi;exact .inl ⟨id,hb',s',e,hi⟩
 ·refine ⟨fun id hb' e=>?_,fun i j hi hj b s1 s2 e1 e2 e3 e4=>?_,fun b hb'=>by have:=hI.fzlt b hb';simp;omega,hI.gb,?_⟩
  ·rw [zAY] at e
   by_cases hid:n=id
   ·subst hid
    simp at e;subst e;exact ⟨w.heap.size,s,by simp,fun h=>by have:=hI.fzlt _ h;omega,hk _ (by simp) (fun b hb'=>hold b (hI.fzlt b hb'))⟩
   ·rw [if_neg hid] at e
    obtain ⟨b,s',h1,h2,h3⟩:=hI.blk id hb' e;exact ⟨b,s',hext _ _ h1,h2,h3.mono hext (fun _ h=>h) (fun b hb'=>hold b (hI.fzlt b hb')) (hold b h3.lt)⟩
  ·rw [zAY] at e1 e2
   by_cases hi':n=i
   ·subst hi'
    by_cases hj':n=j
    ·exact hj'
    ·rw [if_neg hj'] at e2
     have:j≠n:=Ne.symm hj';simp only [this,if_false] at e4;simp at e3;obtain ⟨b',s',h1,h2,h3⟩:=hI.blk j hj e2;rw [e4] at h1;injection h1 with h1
     injection h1 with h1 _
     have:=h3.lt;omega
   ·rw [if_neg hi'] at e1
    have hi2:i≠n:=Ne.symm hi';simp only [hi2,if_false] at e3;by_cases hj':n=j
    ·subst hj'
     simp at e4;obtain ⟨b',s',h1,h2,h3⟩:=hI.blk i hi e1;rw [e3] at h1;injection h1 with h1
     injection h1 with h1 _
     have:=h3.lt;omega
    ·rw [if_neg hj'] at e2
     have:j≠n:=Ne.symm hj';simp only [this,if_false] at e4;exact hI.inj i j hi hj b s1 s2 e1 e2 e3 e4
  ·refine G.keep w _ hI.gp fun b hb'=>hold b (hI.fzlt b (hI.gb b hb'))
theorem zB1.write {G:Gl}{ι:Io}{fz:Nat->Prop}{H:Hp}{n:Nat}{w w':World}(hI:Inv G ι fz (hget H) w) {id b s:Nat}{hb hb':HB}(e:hget H id=some hb) (hi:ι id=some (b,s))
  (hsize:w'.heap.size=w.heap.size) (hother:∀k,k≠b->w'.heap[k]? = w.heap[k]?) (h1:w'.os=w.os) (h2:w'.tape=w.tape) (h3:w'.output=w.output)
  (hk:(∀k,fz k->w'.heap[k]? = w.heap[k]?)->zJH ι fz w' b s hb'):zB1 G ι fz (hget H) n w ι fz (hget (zK1 H id hb')) n w':=by
 obtain ⟨b0,s0,hi0,hn0,hk0⟩:=hI.blk id hb e;rw [hi] at hi0;injection hi0 with hi0
 injection hi0 with hb0 hs0
 subst hb0 hs0;have hfz:∀k,fz k->w'.heap[k]? = w.heap[k]?:=fun k hk=>hother k (fun h=>hn0 (h ▸ hk))
 have hdom:∀j x,hget (zK1 H id hb') j=some x->(j=id/\x=hb')\/(j≠id/\hget H j=some x):=by
  intro j x ej;rw [zLq] at ej
  split at ej
  ·rename_i hj
   rw [e] at ej;simp at ej;exact .inl ⟨hj,ej.symm⟩
  ·rename_i hj
   exact .inr ⟨hj,ej⟩
 have hdom':∀j x,hget (zK1 H id hb') j=some x->∃y,hget H j=some y:=by
  intro j x ej;rcases hdom j x ej with ⟨rfl,_⟩ | ⟨_,h⟩
  ·exact ⟨hb,e⟩
  ·exact ⟨x,h⟩
 refine ⟨fun _ _ h=>h,fun _ _=>rfl,fun _ h=>h,fun _ h=>.inl h,by omega,fun k hk hn=>hother k (fun h=>hn ⟨id,hb,s,e,h ▸ hi⟩),h1,h2,h3,?_,?_⟩
 ·rintro k ⟨j,x,s',ej,hj⟩
  obtain ⟨y,ey⟩:=hdom' j x ej;exact .inl ⟨j,y,s',ey,hj⟩
 ·refine ⟨fun j x ej=>?_,fun i j xi xj k s1 s2 e1 e2 e3 e4=>?_,fun k hk=>by rw [hsize];exact hI.fzlt k hk,hI.gb,G.keep w _ hI.gp fun k hk=>hfz k (hI.gb k hk)⟩
  ·rcases hdom j x ej with ⟨rfl,rfl⟩ | ⟨hj,hx⟩
   ·exact ⟨b,s,hi,hn0,hk hfz⟩
   ·obtain ⟨b',s',h4,h5,h6⟩:=hI.blk j x hx
    refine ⟨b',s',h4,h5,h6.mono (fun _ _ h=>h) (fun _ h=>h) hfz (hother b' (fun h=>?_))⟩;subst h;exact hj (hI.inj j id x hb b' s' s hx e h4 hi)
  ·obtain ⟨y1,ey1⟩:=hdom' i xi e1
   obtain ⟨y2,ey2⟩:=hdom' j xj e2;exact hI.inj i j y1 y2 k s1 s2 ey1 ey2 e3 e4
def zBV (P:Program) (E:Env):Prop:=∀t ti,PT.get none E.ti t=some ti->zMV P t ti
def zAB (P:Program) (G:Gl) (o:Oper) (a:Act) (ι:Io) (fz:Nat->Prop) (H:Hp) (n:Nat) (w:World) (r:RV):Prop:=
 ∀v H' n',r=.ok v H' n'->(∀i,n<=i->i<n'->ι i=none)->
  zBk P o a w fun u w'=>∃ι' fz',zB1 G ι fz (hget H) n w ι' fz' (hget H') n' w'/\Rel ι' fz' w' v u
section
variable {P:Program}{G:Gl}{E:Env}{o:Oper}{a:Act}{ι:Io}{fz:Nat->Prop}{H:Hp}{n:Nat}{w:World}{T:Tm}{call:zAr}
theorem zAB.same (hI:Inv G ι fz (hget H) w) {x:AV}{u:Value}(hrun:(execOp a.eval o).run P w=.ok (.value u) w) (hr:Rel ι fz w x u):zAB P G o a ι fz H n w (.ok x H n):=by
 intro v H' n' e _;injection e with e1 e2 e3
 subst e1 e2 e3;exact zBk.value hrun ⟨ι,fz,zB1.refl hI n,hr⟩
theorem zAB.fail:zAB P G o a ι fz H n w .fail:=fun v H' n' e=>by cases e
theorem zAB.okv (hI:Inv G ι fz (hget H) w) {x:Option AV}(h:∀y,x=some y->∃u,(execOp a.eval o).run P w=.ok (.value u) w/\Rel ι fz w y u):zAB P G o a ι fz H n w (okv x H n):=by
 cases x with
 | none=>exact zAB.fail
 | some y=>
  obtain ⟨u,h1,h2⟩:=h y rfl;exact zAB.same hI h1 h2
theorem zAd {t:Nat}{f:TI->RV}(hE:zBV P E) (h:∀ti,zMV P t ti->zAB P G o a ι fz H n w (f ti)):zAB P G o a ι fz H n w (withT E t f):=by
 unfold withT;cases e:PT.get none E.ti t with
 | none=>exact zAB.fail
 | some ti=>exact h ti (hE t ti e)
theorem zCc {t:Nat}{f:TI->RV}(hE:zBV P E) (h:∀e te,P.underlying t=some (.slice e)->zMV P e te->zAB P G o a ι fz H n w (f te)):zAB P G o a ι fz H n w (elemT E t f):=by
 unfold elemT;refine zAd hE fun ti hti=>?_
 obtain ⟨i,z,d,_,_,_,_,_,_,_,_,hd,hc⟩:=hti.ex
 split
 ·rename_i e hce
  rw [hce] at hc;simp only [zGS] at hc;subst hc;exact zAd hE fun te hte=>h e te hd hte
 ·exact zAB.fail
theorem zAB.new (hI:Inv G ι fz (hget H) w) {cs:List AV}{vs:List Value}{rest:List Value}{ty:TypeId}{k:Nat}{x:AV}{u:Value}
  (hrun:(execOp a.eval o).run P w=.ok (.value u) { w with heap:=w.heap.push (.cells (vs++rest).toArray ty (0,0)),drawn:=w.drawn+k })
  (hr:zA5 ι fz w true cs vs) (hu:∀ι' w',(∀i p,ι i=some p->ι' i=some p)->ι' n=some (w.heap.size,(vs++rest).length)->(∀b,fz b->w'.heap[b]? = w.heap[b]?)->Rel ι' fz w' x u) :
  zAB P G o a ι fz H n w (.ok x ((n,.cells cs)::H) (n+1)):=by
 intro v H' n' e hf;injection e with e1 e2 e3
 subst e1 e2 e3;have hext:∀i p,ι i=some p->(fun j=>if j=n then some (w.heap.size,(vs++rest).length) else ι j) i=some p:=by
  intro i p e;have:i≠n:=fun h=>by subst h;rw [hf i (Ya _) (Nat.lt_succ_self _)] at e;cases e
  simpa [this] using e
 refine zBk.value hrun ⟨_,fz,zB1.new hI (hf n (Ya _) (Nat.lt_succ_self _)) (.cells cs) _ (vs++rest).length (fun w' h1 h2=>?_) k,hu _ _ hext (by simp) (fun b hb=>?_)⟩
 ·exact ⟨vs,rest,ty,h1,hr.mono hext (fun _ h=>h) h2,rfl⟩
 ·have:=hI.fzlt b hb
  rw [Array.getElem?_push]
  split
  ·omega
  ·rfl
theorem zRj {x:Operand}(ho:o.op=.move x\/o.op=.assign x) (hI:Inv G ι fz (hget H) w) (hx:Rel ι fz w (zAf T x) (a.eval x)):zAB P G o a ι fz H n w (zTc x E call T H n):=by
 refine zAB.same hI ?_ hx;rcases ho with ho | ho <;> simp only [execOp,ho,Sem.run_pure]
theorem zVd {c x y:Operand}(ho:o.op=.pick c x y) (hI:Inv G ι fz (hget H) w) (hc:Rel ι fz w (zAf T c) (a.eval c)) (hx:Rel ι fz w (zAf T x) (a.eval x)) (hy:Rel ι fz w (zAf T y) (a.eval y)) :
  zAB P G o a ι fz H n w (zKb c x y E call T H n):=by
 unfold zKb
 split
 ·rename_i t e
  rw [e] at hc;cases hc':a.eval c <;> rw [hc'] at hc <;> cases hc
  refine zAB.same hI (u:=if t then a.eval x else a.eval y) ?_ ?_
  ·simp only [execOp,ho,hc',asBool,Sem.run_bind,Sem.run_pure,Result.andThen_ok]
  ·cases t
   ·exact hy
   ·exact hx
 ·exact zAB.fail
theorem zTG {t:Nat}(hE:zBV P E) (ho:o.op=.alloc t) (hI:Inv G ι fz (hget H) w):zAB P G o a ι fz H n w (zHN t E call T H n):=by
 refine zAd hE fun ti hti=>?_
 obtain ⟨i,z,d,hi,hs,hb,hz,hzr,hzl,_,_,hd,hc⟩:=hti.ex;refine zAB.new hI (k:=0) (vs:=z.cells.toList) (rest:=[]) (ty:=t) (u:=.pointer (some ⟨w.heap.size,0,none⟩)) ?_ (hzr ι fz w) (fun ι' w' _ h _=>.ptr _ _ _ _ h);simp only [execOp,ho,Instr.alloc,Sem.run_bind,zHE hi hz,Result.andThen_ok,newVar,newRow,newObj,Sem.run_pure,List.append_nil,Array.toArray_toList,Nat.add_zero];rfl
theorem cells?_v (u:Value):cells? (.v u)=(match u with | .agg _=>none | .tuple _=>none | x=>some [AV.v x]):=rfl
theorem zGb {x:AV}{u:Value}{cs:List AV}(h:cells? x=some cs) (hr:Rel ι fz w x u):zA5 ι fz w true cs u.cells.toList:=by
 have one:∀ (y:AV) (u:Value),Rel ι fz w y u->zFv u=true->zA5 ι fz w true [y] u.cells.toList:=by
  intro y u hy hu;have:u.cells.toList=[u]:=by cases u <;> first | rfl | cases hu
  rw [this];exact .single hy fun _=>hu
 cases hr with
 | i k n=>cases h;exact one _ _ (.i k n) rfl
 | b t=>cases h;exact one _ _ (.b t) rfl
 | v x=>
  rw [cells?_v] at h
  split at h
  ·cases h
  ·cases h
  ·rename_i h1 h2
   cases h;refine one _ _ (.v u) ?_;cases u <;> first | rfl | exact absurd rfl (h1 _) | exact absurd rfl (h2 _)
 | any=>cases h
 | lim n A len c h' hf=>cases h;exact one _ _ (.lim n A len c h' hf) rfl
 | fsl cs' vs len b o' c hf hc hl h'=>cases h;exact one _ _ (.fsl cs' vs len b o' c hf hc hl h') rfl
 | fpt cs' vs b o' hf hc h'=>cases h;exact one _ _ (.fpt cs' vs b o' hf hc h') rfl
 | sl id off len k cap b s c hi hs hl hc hm=>cases h;exact one _ _ (.sl id off len k cap b s c hi hs hl hc hm) rfl
 | ptr id off b s hi=>cases h;exact one _ _ (.ptr id off b s hi) rfl
 | map id b s hi=>cases h;exact one _ _ (.map id b s hi) rfl
 | agg cs' vs h'=>cases h;simpa [Value.cells] using h'
 | tup=>cases h
 | fn f cs' vs h'=>cases h;exact one _ _ (.fn f cs' vs h') rfl
 | ifc t y v h'=>cases h;exact one _ _ (.ifc t y v h') rfl
theorem zeP {t:Nat}{x:Operand}(ho:o.op=.box t x) (hI:Inv G ι fz (hget H) w) (hx:Rel ι fz w (zAf T x) (a.eval x)):zAB P G o a ι fz H n w (zRt t x E call T H n):=by
 unfold zRt;cases e:cells? (zAf T x) with
 | none=>exact zAB.fail
 | some cs=>
  have hr:=zGb e hx;refine zAB.new hI (k:=0) (rest:=[]) (ty:=t) (u:=.pointer (some ⟨w.heap.size,0,none⟩)) ?_ hr (fun ι' w' _ h _=>.ptr _ _ _ _ h);simp only [execOp,ho,Instr.box,Sem.run_bind,Result.andThen_ok,newVar,newRow,newObj,Sem.run_pure,List.append_nil,Array.toArray_toList,Nat.add_zero];rfl
theorem zHJ {ti:TI}{t:Nat}{cs:List AV}{vs:List Value}{y:AV}(hti:zMV P t ti) (hr:zA5 ι fz w true cs vs) (h:zDP (zC6 ti.c) ti.size cs=some y) :
  ∃i d u,P.info? t=some i/\P.underlying t=some d/\Rel ι fz w y u/\i.size=ti.size/\((zBZ d=true/\i.size<=vs.length/\u=.agg (vs.take i.size).toArray)\/(zBZ d=false/\vs[0]? = some u/\zFv u=true)):=by
 obtain ⟨i,z,d,hi,hs,hb,hz,hzr,hzl,_,_,hd,hc⟩:=hti.ex;rw [zG0 hc] at h;unfold zDP at h;cases hag:zBZ d
 ·rw [hag] at h
  change zK0 cs=some y at h
  rw [zGG,List.head?_eq_getElem?] at h;obtain ⟨u,h1,h2,h3⟩:=hr.get h;exact ⟨i,d,u,hi,hd,h2,hs,.inr ⟨hag,h1,h3 rfl⟩⟩
 ·rw [hag] at h
  change (Bool.rec none (some (AV.agg (zI9 cs ti.size))) (Nat.beq (zJK (zI9 cs ti.size)) ti.size):Option AV)=some y at h
  rw [zGN,zCx] at h;cases hl:Nat.beq (cs.take ti.size).length ti.size
  ·rw [hl] at h;cases h
  ·rw [hl] at h
   injection h with h
   subst h;have hl':=Yg hl;rw [Yr] at hl';have:=hr.len;refine ⟨i,d,.agg (vs.take ti.size).toArray,hi,hd,.agg _ _ (hr.take _),hs,.inl ⟨hag,by omega,by rw [hs]⟩⟩
theorem zJ7 (hI:Inv G ι fz (hget H) w) {id off:Nat}{u:Value}{cs:List AV}(hr:Rel ι fz w (.ptr id off) u) (e:hget H id=some (.cells cs)) :
  ∃b s vs rest ty,u=.pointer (some ⟨b,off,none⟩)/\ι id=some (b,s)/\w.heap[b]? = some (.cells (vs++rest).toArray ty (0,0))/\zA5 ι fz w true cs vs/\(vs++rest).length=s:=by
 cases hr with
 | ptr _ _ b s hi=>
  obtain ⟨b',s',hi',hn,vs,rest,ty,h1,h2,h3⟩:=hI.blk id _ e;rw [hi] at hi';injection hi' with hi'
  injection hi' with e1 e2
  subst e1 e2;exact ⟨b,s,vs,rest,ty,rfl,hi,h1,h2,h3⟩
theorem zEZ {b:Nat}{vs rest:List Value}{ty:TypeId}{f:Nat×Nat}(h:w.heap[b]? = some (.cells (vs++rest).toArray ty f)):zA1 w b 0 vs:=by
 intro j v hv;simp only [World.cell?,h,Nat.zero_add,Option.isSome_none,Bool.false_eq_true,if_false,List.getElem?_toArray];have hj:j<vs.length:=(Yb.1 hv).1;rw [Yw hj];exact hv
theorem zLx (hI:Inv G ι fz (hget H) w) {t:Nat}{ti:TI}{p:AV}{u:Value}{y:AV}(hti:zMV P t ti) (hr:Rel ι fz w p u) (h:loadAt H p (zC6 ti.c) ti.size=some y) :
  ∃ad x,u=.pointer (some ad)/\(loadVar t ad).run P w=.ok x w/\Rel ι fz w y x:=by
 unfold loadAt at h
 split at h
 ·rename_i id off
  split at h
  ·rename_i cs e
   obtain ⟨b,s,vs,rest,ty,rfl,hi,h1,h2,h3⟩:=zJ7 hI hr e;rw [zBr] at h;obtain ⟨i,d,x,hii,hd,hx,hsz,hor⟩:=zHJ hti (h2.drop off) h;have hc:=zBY (zEZ h1) off;rw [Nat.zero_add] at hc;refine ⟨_,x,rfl,zDu hii hd hc ?_,hx⟩;rcases hor with hor | ⟨h4,h5,_⟩
   ·exact .inl hor
   ·exact .inr ⟨h4,h5⟩
  ·cases h
 ·rename_i cs
  cases hr with
  | fpt _ vs b o' hf hc hrel=>
   obtain ⟨i,d,x,hii,hd,hx,hsz,hor⟩:=zHJ hti hrel h;refine ⟨_,x,rfl,zDu hii hd hc ?_,hx⟩;rcases hor with hor | ⟨h4,h5,_⟩
   ·exact .inl hor
   ·exact .inr ⟨h4,h5⟩
 ·cases h
theorem zVa {t:Nat}{x:Operand}(hE:zBV P E) (ho:o.op=.load t x) (hI:Inv G ι fz (hget H) w) (hx:Rel ι fz w (zAf T x) (a.eval x)):zAB P G o a ι fz H n w (zHe t x E call T H n):=by
 refine zAd hE fun ti hti=>zAB.okv hI fun y hy=>?_
 obtain ⟨ad,u,e,h1,h2⟩:=zLx hI hti hx hy;refine ⟨u,?_,h2⟩;simp only [execOp,ho,e,Instr.loadAt,Instr.sureAddr,Sem.run_bind,Sem.run_pure,Result.andThen_ok,h1]
theorem zTM {t:Nat}{x y:Operand}(hE:zBV P E) (ho:o.op=.store t x y) (hI:Inv G ι fz (hget H) w) (hx:Rel ι fz w (zAf T x) (a.eval x)) (hy:Rel ι fz w (zAf T y) (a.eval y)) :
  zAB P G o a ι fz H n w (zMS t x y E call T H n):=by
 refine zAd hE fun ti hti=>?_
 cases ec:cells? (zAf T y) with
 | none=>exact zAB.fail
 | some vs=>
  have hv:=zGb ec hy
  change zAB P G o a ι fz H n w (zI6 ti.size (zAf T x) vs H n)
  unfold zI6
  split
  ·rename_i id off ep
   rw [ep] at hx
   split
   ·rename_i cs e
    obtain ⟨b,s,us,rest,ty,hu,hi,h1,h2,h3⟩:=zJ7 hI hx e;rw [zCx];cases hl:Nat.beq vs.length ti.size
    ·exact zAB.fail
    ·have hl':=Yg hl
     cases est:zDY off cs vs with
     | none=>exact zAB.fail
     | some cs'=>
      obtain ⟨h4,rfl⟩:=zB6 est;intro v H' n' er hf;injection er with e1 e2 e3
      subst e1 e2 e3;obtain ⟨i,z,d,hii,hs,hb,hz,hzr,hzl,_,_,hd,hc⟩:=hti.ex;have hlen:=hv.len;have hlen2:=h2.len;have hsz:(a.eval y).cells.size=i.size:=by rw [<- Array.length_toList,<- hlen,hs];exact hl'
      have hst:=zI1 (P:=P) hii h1 (v:=a.eval y) (o:=off) hsz (by rw [hsz];simp;omega) (hv.cells rfl);refine zBk.skip (w':=w.setRow b ((us++rest).toArray.toList.take off++(a.eval y).cells.toList++(us++rest).toArray.toList.drop (off+(a.eval y).cells.size)).toArray) ?_ ?_
      ·simp only [execOp,ho,hu,Instr.storeAt,Instr.sureAddr,Sem.run_bind,Sem.run_pure,Result.andThen_ok,hst]
      ·refine ⟨ι,fz,zB1.write hI e hi (by simp) (fun k hk=>setRow_other _ _ _ _ hk) rfl rfl rfl (fun hfz=>?_),.v _⟩
       have hvl:(a.eval y).cells.toList.length=vs.length:=hlen.symm;refine ⟨us.take off++(a.eval y).cells.toList++us.drop (off+vs.length),rest,ty,?_,?_,?_⟩
       ·rw [setRow_heap _ _ _ _ _ _ h1]
        congr 2
        have e1:(a.eval y).cells.size=vs.length:=by rw [<- hvl];simp
        rw [e1];simp only [List.take_append_of_le_length (show off<=us.length by omega),List.append_assoc,List.append_cancel_left_eq];rw [List.drop_append_of_le_length (by omega)]
       ·exact ((((h2.take off).append hv).append (h2.drop _)).mono (fun _ _ h=>h) (fun _ h=>h) hfz)
       ·rw [<- h3]
        simp only [Yu,Yr,List.length_drop,hvl];omega
   ·exact zAB.fail
  ·exact zAB.fail
end
theorem zJh (off:Nat):∀ (l:List Value) (k:Nat) (cells:Array Value),off+k+l.length<=cells.size->
  (l.zipIdx k).foldl (fun (cs:Array Value) (p:Value×Nat)=>cs.setIfInBounds (off+p.2) p.1) cells=(cells.toList.take (off+k)++l++cells.toList.drop (off+k+l.length)).toArray
 | [],k,cells,_=>by simp
 | v::l,k,cells,h=>by
  simp only [List.length_cons] at h;rw [List.zipIdx_cons,List.foldl_cons,zJh off l (k+1) _ (by simp;omega)]
  congr 1
  have e:=list_seg_step cells.toList (off+k) v l (by simp;omega)
  simpa [Array.toList_setIfInBounds,Nat.add_assoc] using e
section
variable {P:Program}{G:Gl}{E:Env}{o:Oper}{a:Act}{ι:Io}{fz:Nat->Prop}{H:Hp}{n:Nat}{w:World}{T:Tm}{call:zAr}
theorem zGF (place:Nat->Option (Nat×Nat)):∀ (ps:List (Nat×Operand)) (cells cs':List AV) (vs:List Value),(∀p∈ps,Rel ι fz w (zAf T p.2) (a.eval p.2))->zCJ (zAf T) place ps cells=some cs'->zA5 ι fz w true cells vs->
  ∃vs':List Value,Instr.fill place vs.toArray (ps.map fun (i,x)=>(i,a.eval x))=some vs'.toArray/\zA5 ι fz w true cs' vs'
 | [],cells,cs',vs,_,h,hr=>by cases h;exact ⟨vs,rfl,hr⟩
 | p::ps,cells,cs',vs,hp,h,hr=>by
  change zA6 (place p.1) (fun q=>zA6 (cells? (zAf T p.2)) fun cs=>Bool.rec none (zA6 (zDY q.1 cells cs) (zCJ (zAf T) place ps)) (Nat.beq (zJK cs) q.2))=some cs' at h
  obtain ⟨q,hq,h⟩:=zAW h;obtain ⟨cs,hc,h⟩:=zAW h;rw [zCx] at h;cases hl:Nat.beq cs.length q.2
  ·rw [hl] at h;cases h
  ·rw [hl] at h
   obtain ⟨c2,h2,h3⟩:=zAW h;obtain ⟨h4,rfl⟩:=zB6 h2;have hv:=zGb hc (hp p List.mem_cons_self);have hl':=Yg hl;have e1:=hv.len;have e2:=hr.len;have hsz:(a.eval p.2).cells.size=q.2:=by rw [<- Array.length_toList,<- e1,hl']
   have hrel:zA5 ι fz w true (cells.take q.1++cs++cells.drop (q.1+cs.length)) (vs.take q.1++(a.eval p.2).cells.toList++vs.drop (q.1+(a.eval p.2).cells.size)):=by
    have:(a.eval p.2).cells.size=cs.length:=by omega
    rw [this];exact ((hr.take _).append hv).append (hr.drop _)
   obtain ⟨vs',h5,h6⟩:=zGF place ps _ cs' _ (fun x hx=>hp x (List.mem_cons_of_mem _ hx)) h3 hrel;refine ⟨vs',?_,h6⟩;simp only [List.map_cons,Instr.fill,hq];rw [if_neg (by simp only [hsz,List.size_toArray,ne_eq,not_true_eq_false,decide_false,Bool.false_or,Xa,Bool.or_eq_true];omega)];rw [<- h5]
   congr 1
   have hf:=zJh q.1 (a.eval p.2).cells.toList 0 vs.toArray (by simp;omega);rw [<- Array.foldl_toList,Array.toList_zipIdx]
   simpa using hf
theorem zTH {t:Nat}{ps:Array (Nat×Operand)}(hE:zBV P E) (ho:o.op=.build t ps) (hI:Inv G ι fz (hget H) w) (hp:∀p∈ps.toList,Rel ι fz w (zAf T p.2) (a.eval p.2)) :
  zAB P G o a ι fz H n w (zHO t ps E call T H n):=by
 refine zAd hE fun ti hti=>?_
 obtain ⟨i,z,d,hi,hs,hb,hz,hzr,hzl,hza,hzn,hd,hc⟩:=hti.ex
 split
 ·rename_i fs hce
  rw [hce] at hc;obtain ⟨fields,rfl,hfl,hfs⟩:=hc;refine zAB.okv hI fun y hy=>?_
  obtain ⟨cs,h1,h2⟩:=zAW hy;injection h2 with h2
  subst h2;obtain ⟨vs',h3,h4⟩:=zGF _ ps.toList _ cs _ hp h1 (hzr ι fz w);refine ⟨.agg vs'.toArray,?_,.agg _ _ h4⟩;have hplace:fields.toList.mapM (fun f=>(P.info? f.type).map fun i=>(f.offset,i.size))=some (fs.map fun f=>(f.1,f.2.1)):=by
   have key:∀ (fl:List Field) (gs:List (Nat×Nat×Bool)),fl.length=gs.length->(∀ (j:Nat) (f:Field),fl[j]? = some f->∃i du,P.info? f.type=some i/\gs[j]? = some (f.offset,i.size,zBZ du))->
     fl.mapM (fun f=>(P.info? f.type).map fun i=>(f.offset,i.size))=some (gs.map fun f=>(f.1,f.2.1)):=by
    intro fl
    induction fl with
    | nil=>intro gs hl _;cases gs with
     | nil=>rfl
     | cons=>cases hl
    | cons f fl ih=>
     intro gs hl hg;cases gs with
     | nil=>cases hl
     | cons g gs=>
      obtain ⟨i,du,hi,hgj⟩:=hg 0 f rfl;simp at hgj;have ih':=ih gs (by simpa using hl) (fun j f hj=>hg (j+1) f (by simpa using hj));rw [List.mapM_cons,ih',hi];simp [hgj]
   exact key fields.toList fs (by simp [hfl]) (fun j f hj=>by
    obtain ⟨i,du,h1,_,h3⟩:=hfs j f (by simpa using hj);exact ⟨i,du,h1,h3⟩)
  have hpl:(fun i=>((fs.map fun f=>(f.1,f.2.1)).toArray)[i]?)=zOg fs:=by
   funext j
   unfold zOg;rw [zE9];simp only [List.getElem?_toArray,List.getElem?_map];cases fs[j]? <;> rfl
  have hb:P.built t (ps.map fun (i,x)=>(i,a.eval x)).toList=some vs'.toArray:=by
   simp only [Program.built,hi,hd,hz,hplace];rw [hpl,Array.toList_map,<- h3,Array.toArray_toList]
  simp only [execOp,ho,Sem.run_bind,run_build w t _ _ hb,Result.andThen_ok,Sem.run_pure]
 ·rename_i m e hce
  rw [hce] at hc;simp only [zGS] at hc;subst hc;refine zAd hE fun te hte=>zAB.okv hI fun y hy=>?_
  obtain ⟨ie,_,_,hie,hse,_⟩:=hte.ex;obtain ⟨cs,h1,h2⟩:=zAW hy;injection h2 with h2
  subst h2;obtain ⟨vs',h3,h4⟩:=zGF _ ps.toList _ cs _ hp h1 (hzr ι fz w);refine ⟨.agg vs'.toArray,?_,.agg _ _ h4⟩;have hpl:(fun i=>some (i*ie.size,ie.size))=fun i=>some (Nat.mul i te.size,te.size):=by rw [hse];rfl
  have hb:P.built t (ps.map fun (i,x)=>(i,a.eval x)).toList=some vs'.toArray:=by
   simp only [Program.built,hi,hd,hz,hie];rw [hpl,Array.toList_map,<- h3,Array.toArray_toList]
  simp only [execOp,ho,Sem.run_bind,run_build w t _ _ hb,Result.andThen_ok,Sem.run_pure]
 ·exact zAB.fail
theorem zHb (z:Array Value) (k:Nat):(madeCells z ((k+1)*z.size)).toList=z.toList++(madeCells z (k*z.size)).toList:=by
 apply List.ext_getElem?
 intro j;rcases Xm z.size with h0 | hp
 ·have:z=#[]:=Array.eq_empty_of_size_eq_zero h0
  subst this;simp [madeCells]
 ·by_cases hj:j<z.size
  ·rw [Yw (by simpa using hj)]
   have h1:j<(k+1)*z.size:=by rw [Nat.succ_mul];omega
   simp [madeCells,h1,Nat.mod_eq_of_lt hj,hj]
  ·rw [Yx (by simpa using Nat.le_of_not_lt hj)]
   simp only [madeCells,Array.length_toList,Array.toList_map,Array.toList_range,List.getElem?_map];by_cases h2:j<(k+1)*z.size
   ·have h3:j - z.size<k*z.size:=by rw [Nat.succ_mul] at h2;omega
    simp only [List.getElem?_range h2,List.getElem?_range h3,Option.map_some]
    congr 2
    have:j%z.size=(j - z.size)%z.size:=by
     conv=>lhs;rw [<- Nat.sub_add_cancel (Nat.le_of_not_lt hj)]
     rw [Nat.add_mod_right]
    simp [this]
   ·have h3:¬ j - z.size<k*z.size:=by rw [Nat.succ_mul] at h2;omega
    rw [Yy (by simpa using h2),Yy (by simpa using h3)]
theorem zFD {zs:List AV}{z:Array Value}(h:zA5 ι fz w true zs z.toList):∀ (k:Nat),zA5 ι fz w true (zTl k zs) (madeCells z (k*z.size)).toList
 | 0=>by
  have:(madeCells z (0*z.size)).toList=[]:=by simp [madeCells]
  rw [this];exact .nil _
 | k+1=>by
  rw [zHb]
  change zA5 ι fz w true (app zs (zTl k zs)) _
  rw [zEq];exact h.append (zFD h k)
theorem zKJ {t len:Nat}{ps:Array (Nat×Operand)}(hE:zBV P E) (ho:o.op=.buildSlice t len ps) (hI:Inv G ι fz (hget H) w) (hp:∀p∈ps.toList,Rel ι fz w (zAf T p.2) (a.eval p.2)) :
  zAB P G o a ι fz H n w (zBv t len ps E call T H n):=by
 refine zCc hE fun e te hd hte=>?_
 obtain ⟨i,z,d,hi,hs,hb,hz,hzr,hzl,_,_,hde,hc⟩:=hte.ex;cases hle:Bool.and (Nat.ble (Nat.mul len te.size) 16777216) (Nat.ble len 16777216)
 ·exact zAB.fail
 ·simp only [Yi] at hle
  have hle':len*te.size<=16777216:=Ym hle.1;have hle2:len<=16777216:=Ym hle.2;cases hf:zCJ (zAf T) (fun i=>some (Nat.mul i te.size,te.size)) ps.toList (zTl len te.zero) with
  | none=>exact zAB.fail
  | some cs=>
   have hzs:z.cells.size=te.size:=by rw [<- Array.length_toList,<- (hzr ι fz w).len,hzl]
   obtain ⟨vs',h3,h4⟩:=zGF _ ps.toList _ cs _ hp hf (zFD (hzr ι fz w) len);have hlen:vs'.length=len*te.size:=by
    have key:∀ (ps:List (Nat×Operand)) (cells cs:List AV),zCJ (zAf T) (fun i=>some (Nat.mul i te.size,te.size)) ps cells=some cs->cs.length=cells.length:=by
     intro ps
     induction ps with
     | nil=>intro cells cs h;cases h;rfl
     | cons p ps ih=>
      intro cells cs h
      change zA6 (cells? (zAf T p.2)) (fun c=>Bool.rec none (zA6 (zDY (Nat.mul p.1 te.size) cells c) (zCJ (zAf T) (fun i=>some (Nat.mul i te.size,te.size)) ps)) (Nat.beq (zJK c) te.size))=some cs at h
      obtain ⟨c,_,h⟩:=zAW h;cases hb:Nat.beq (zJK c) te.size
      ·rw [hb] at h;cases h
      ·rw [hb] at h
       obtain ⟨c2,h2,h⟩:=zAW h;obtain ⟨h5,rfl⟩:=zB6 h2;rw [ih _ _ h];simp only [Yu,Yr,List.length_drop];omega
    have h5:=key _ _ _ hf;have h6:=(zFD (hzr ι fz w) len).len;have h7:=h4.len;have h8:(madeCells z.cells (len*z.cells.size)).toList.length=len*te.size:=by rw [Array.length_toList,size_madeCells,hzs]
    rw [<- h7,h5,h6,h8]
   refine zAB.new hI (k:=0) (rest:=[]) (ty:=e) (u:=.slice (some ⟨w.heap.size,0,none⟩) len len) ?_ h4 (fun ι' w' _ h _=>?_)
   ·have hpl:(fun (j:Nat)=>some (j*i.size,i.size))=fun j=>some (Nat.mul j te.size,te.size):=by rw [hs];rfl
    have hsz:i.size=z.cells.size:=by rw [hzs,hs]
    have hgt:¬ (len*i.size > 2^24):=by rw [hs];omega
    have hfill:Instr.fill (fun j=>some (j*i.size,i.size)) (madeCells z.cells (len*i.size)) (ps.map fun (i,x)=>(i,a.eval x)).toList=some vs'.toArray:=by
     rw [hpl,Array.toList_map,<- h3,hsz,Array.toArray_toList]
    by_cases h0:len*i.size=0
    ·rw [h0] at hfill
     have hm:madeCells z.cells 0=#[]:=by simp [madeCells]
     rw [hm] at hfill;simp only [execOp,ho,Sem.run_bind];have:(Instr.buildSlice t len (ps.map fun (i,x)=>(i,a.eval x))).run P w=.ok (.slice (some ⟨w.heap.size,0,none⟩) len len) (w.alloc (.cells vs'.toArray e)):=by
      rw [Array.toList_map] at hfill;have hr:∀ (f:Nat->Value),Array.map f (Array.range 0)=#[]:=fun f=>by simp
      simp [Instr.buildSlice,run_underlying hd,zAj hi,h0,hr,hfill,newRow]
     rw [this,List.append_nil];rfl
    ·simp only [execOp,ho,Sem.run_bind,run_buildSlice w t e len _ vs'.toArray i z hd hi hz hgt h0 hfill,List.append_nil]
     rfl
   ·refine .sl n 0 len te.size (some len) _ _ len h ?_ (Ya _) (fun m hm=>by injection hm with hm;exact hm.symm) (by omega)
    simp [hlen]
end
theorem zBq (b o j:Nat):(⟨b,o,none⟩:Addr).add j=⟨b,o+j,none⟩:=zDu.add_mk' b o j
section
variable {P:Program}{G:Gl}{E:Env}{o:Oper}{a:Act}{ι:Io}{fz:Nat->Prop}{H:Hp}{n:Nat}{w:World}{T:Tm}{call:zAr}
theorem zeS {x:Operand}(ho:o.op=.nilCheck x) (hI:Inv G ι fz (hget H) w) (hx:Rel ι fz w (zAf T x) (a.eval x)):zAB P G o a ι fz H n w (zRu x E call T H n):=by
 unfold zRu
 split
 ·rename_i i p e
  rw [e] at hx;refine zAB.same hI (u:=a.eval x) ?_ hx;cases hu:a.eval x <;> rw [hu] at hx <;> cases hx
  simp only [execOp,ho,hu,Sem.run_pure]
 ·rename_i c e
  rw [e] at hx;refine zAB.same hI (u:=a.eval x) ?_ hx;cases hu:a.eval x <;> rw [hu] at hx <;> cases hx
  simp only [execOp,ho,hu,Sem.run_pure]
 ·rename_i f c e
  rw [e] at hx;refine zAB.same hI (u:=a.eval x) ?_ hx;cases hu:a.eval x <;> rw [hu] at hx <;> cases hx
  simp only [execOp,ho,hu,Sem.run_pure]
 ·exact zAB.fail
theorem zVZ {f:Fn}{first caps:Array Operand}(ho:o.op=.makeFunc f first caps) (hI:Inv G ι fz (hget H) w) (hc:∀x∈caps.toList,Rel ι fz w (zAf T x) (a.eval x)) :
  zAB P G o a ι fz H n w (zKa f first caps E call T H n):=by
 unfold zKa
 split
 ·rename_i f h
  have e1:first=#[]:=by rw [<- Array.toList_eq_nil_iff];assumption
  subst e1;rw [zCN];have key:∀ (l:List Operand),(∀x∈l,Rel ι fz w (zAf T x) (a.eval x))->zA5 ι fz w false (l.map (zAf T)) (l.map a.eval):=by
   intro l
   induction l with
   | nil=>intro _;exact .nil _
   | cons x l ih=>intro h;exact .cons _ _ _ _ _ (h x List.mem_cons_self) (fun e=>by cases e) (ih fun y hy=>h y (List.mem_cons_of_mem _ hy))
  refine zAB.same hI (u:=.func (.func f) #[] (caps.map a.eval)) ?_ ?_
  ·simp only [execOp,ho,Instr.makeFunc,Sem.run_bind,Sem.run_pure,Result.andThen_ok,Array.map_empty]
  ·have:=Rel.fn (ι:=ι) (fz:=fz) (w:=w) f _ _ (key caps.toList hc)
   have e2:(List.map a.eval caps.toList).toArray=caps.map a.eval:=by apply Array.ext';simp
   rwa [e2] at this
 ·exact zAB.fail
theorem zO2 {x:Operand}{k:Nat}(ho:o.op=.extract x k) (hI:Inv G ι fz (hget H) w) (hx:Rel ι fz w (zAf T x) (a.eval x)):zAB P G o a ι fz H n w (zCs x k E call T H n):=by
 unfold zCs
 split
 ·rename_i vs e
  rw [e] at hx;cases hu:a.eval x <;> rw [hu] at hx <;> cases hx
  rename_i us hr
  refine zAB.okv hI fun y hy=>?_
  rw [zE9] at hy;obtain ⟨u,h1,h2,_⟩:=hr.get hy;refine ⟨u,?_,h2⟩;simp only [execOp,ho,hu,Instr.extract,Sem.run_bind,List.getElem?_toArray,h1,Sem.run_pure,Result.andThen_ok]
 ·exact zAB.fail
theorem zFf {x:AV}{m:Nat}{u:Value}(h:nat? x=some m) (hr:Rel ι fz w x u):∃k,u=.int k (m:Int):=by
 unfold nat? at h
 split at h
 ·split at h
  ·injection h with h
   subst h;cases hr;exact ⟨_,rfl⟩
  ·cases h
 ·cases h
theorem zLK {t f:Nat}{x:Operand}(hE:zBV P E) (ho:o.op=.fieldAddr t x f) (hI:Inv G ι fz (hget H) w) (hx:Rel ι fz w (zAf T x) (a.eval x)):zAB P G o a ι fz H n w (zB7 t x f E call T H n):=by
 refine zAd hE fun ti hti=>?_
 obtain ⟨i,z,d,hi,hs,hb,hz,hzr,hzl,hza,hzn,hd,hc⟩:=hti.ex
 split
 ·rename_i fs hce
  rw [hce] at hc;obtain ⟨fields,rfl,hfl,hfs⟩:=hc
  split
  ·rename_i fd hfd
   rw [zE9] at hfd;have hlt:f<fields.size:=by rw [<- hfl];exact (Yb.1 hfd).1
   obtain ⟨fi,du,h1,h2,h3⟩:=hfs f fields[f] (Array.getElem?_eq_getElem hlt);rw [hfd] at h3;injection h3 with h3
   subst h3;cases h0:Nat.beq fi.size 0
   ·have hne:fi.size≠0:=fun h=>by rw [h] at h0;cases h0
    have hplace:∀b p,(fieldPlace ⟨b,p,none⟩ fields[f]).run P w=.ok ⟨b,p+fields[f].offset,none⟩ w:=by
     intro b p;unfold fieldPlace;simp only [Sem.run_bind,zAj h1,Result.andThen_ok,hne,if_false,Sem.run_pure,zBq]
    simp only []
    split
    ·rename_i id p e
     rw [e] at hx;cases hu:a.eval x <;> rw [hu] at hx <;> cases hx
     rename_i b s hi'
     refine zAB.same hI (u:=.pointer (some ⟨b,p+fields[f].offset,none⟩)) ?_ (.ptr _ _ _ _ hi');simp only [execOp,ho,hu,Instr.fieldAt,Instr.sureAddr,Sem.run_bind,run_underlying hd,Result.andThen_ok,Array.getElem?_eq_getElem hlt,Sem.run_pure,hplace]
    ·rename_i cs e
     rw [e] at hx;cases hu:a.eval x <;> rw [hu] at hx <;> cases hx
     rename_i vs b p hf hc hr
     refine zAB.same hI (u:=.pointer (some ⟨b,p+fields[f].offset,none⟩)) ?_ ?_
     ·simp only [execOp,ho,hu,Instr.fieldAt,Instr.sureAddr,Sem.run_bind,run_underlying hd,Result.andThen_ok,Array.getElem?_eq_getElem hlt,Sem.run_pure,hplace]
     ·rw [zBr]
      exact .fpt _ _ _ _ hf (zBY hc _) (hr.drop _)
    ·exact zAB.fail
   ·exact zAB.fail
  ·exact zAB.fail
 ·exact zAB.fail
theorem zJ4 {t:Nat}{i:TypeInfo}{d:TypeDesc}(hi:P.info? t=some i) (hd:P.underlying t=some d) {cs:List AV}{vs:List Value}{off:Nat}{y:AV}(hr:zA5 ι fz w true cs vs) (h:zDP (zBZ d) i.size (zEJ cs off)=some y) :
  ∃u,(part t vs.toArray off).run P w=.ok u w/\Rel ι fz w y u:=by
 rw [zBr] at h;unfold part;rw [Sem.run_bind,zEE hd];unfold zDP at h;cases hag:zBZ d
 ·rw [hag] at h
  change zK0 (cs.drop off)=some y at h
  rw [zGG,List.head?_drop] at h;obtain ⟨u,h1,h2,h3⟩:=hr.get h;refine ⟨u,?_,h2⟩;simp only [Result.andThen_ok,Bool.false_eq_true,if_false,List.getElem?_toArray,h1,Sem.run_pure]
 ·rw [hag] at h
  change (Bool.rec none (some (AV.agg (zI9 (cs.drop off) i.size))) (Nat.beq (zJK (zI9 (cs.drop off) i.size)) i.size):Option AV)=some y at h
  rw [zGN,zCx] at h;cases hl:Nat.beq ((cs.drop off).take i.size).length i.size
  ·rw [hl] at h;cases h
  ·rw [hl] at h
   injection h with h
   subst h;refine ⟨.agg ((vs.drop off).take i.size).toArray,?_,.agg _ _ ((hr.drop off).take _)⟩;simp only [Result.andThen_ok,if_true,Sem.run_bind,zAj hi,Sem.run_pure]
   congr 2
   apply Array.ext'
   simp [List.take_drop,Nat.add_comm off]
theorem zQh {t:Nat}{ti:TI}{cs:List AV}{vs:List Value}{off:Nat}{y:AV}(hti:zMV P t ti) (hr:zA5 ι fz w true cs vs) (h:zDP (zC6 ti.c) ti.size (zEJ cs off)=some y) :
  ∃u,(part t vs.toArray off).run P w=.ok u w/\Rel ι fz w y u:=by
 obtain ⟨i,z,d,hi,hs,hb,hz,hzr,hzl,_,_,hd,hc⟩:=hti.ex;rw [zG0 hc,<- hs] at h;exact zJ4 hi hd hr h
theorem zTJ {t f:Nat}{x:Operand}(hE:zBV P E) (ho:o.op=.field t x f) (hI:Inv G ι fz (hget H) w) (hx:Rel ι fz w (zAf T x) (a.eval x)):zAB P G o a ι fz H n w (zHP t x f E call T H n):=by
 refine zAd hE fun ti hti=>?_
 obtain ⟨i,z,d,hi,hs,hb,hz,hzr,hzl,hza,hzn,hd,hc⟩:=hti.ex
 split
 ·rename_i fs cs hce e
  rw [hce] at hc;obtain ⟨fields,rfl,hfl,hfs⟩:=hc;rw [e] at hx;cases hu:a.eval x <;> rw [hu] at hx <;> cases hx
  rename_i us hr
  split
  ·rename_i fd hfd
   rw [zE9] at hfd;have hlt:f<fields.size:=by rw [<- hfl];exact (Yb.1 hfd).1
   obtain ⟨fi,du,h6,h7,h8⟩:=hfs f fields[f] (Array.getElem?_eq_getElem hlt);rw [hfd] at h8;injection h8 with h8
   subst h8;refine zAB.okv hI fun y hy=>?_
   obtain ⟨u,h9,h10⟩:=zJ4 h6 h7 hr hy;refine ⟨u,?_,h10⟩;simp only [execOp,ho,hu,Instr.field,Sem.run_bind,run_underlying hd,Result.andThen_ok,Array.getElem?_eq_getElem hlt,asAgg,Sem.run_pure,h9]
  ·exact zAB.fail
 ·exact zAB.fail
theorem zOR {m:Nat}{A:Option Addr}{len c i:Nat}(h:SL w A len c (zAa m)) (hf:∀ad,A=some ad->0<len->fz ad.block) (hi:i<len) :
  ∃b o,A=some ⟨b,o,none⟩/\fz b/\zA1 w b (o+i) (((zAa m).map u32).drop i):=by
 obtain ⟨b,off,e,hb,hc⟩:=h.at_ (by omega);refine ⟨b,off,e,hf _ e (by omega),fun j v hv=>?_⟩;rw [List.getElem?_drop,List.getElem?_map] at hv;cases hd:(zAa m)[i+j]? with
 | none=>rw [hd] at hv;cases hv
 | some d=>
  rw [hd] at hv;injection hv with hv
  subst hv;rw [Nat.add_assoc];exact hc _ _ hd
end
theorem zFU:∀ (f n:Nat),zIZ f n=((zAa n).take f).map zVp
 | 0,n=>by rw [List.take_zero];rfl
 | f+1,n=>by
  change (Bool.rec (zVp (Nat.mod n 4294967296)::zIZ f (Nat.div n 4294967296)) [] (Nat.beq n 0):List AV)=_
  cases h:Nat.beq n 0
  ·have hp:0<n:=by
    rcases Xm n with e | e
    ·subst e;cases h
    ·exact e
   rw [zBK n hp];simp only [List.take_succ_cons,List.map_cons];rw [<- zFU f];rfl
  ·have:n=0:=Yg h
   subst this;simp [zCI]
theorem zDq (n:Nat):zER n=(zAa n).length:=by
 unfold zER;cases h:Nat.beq n 0
 ·have hp:0<n:=by
   rcases Xm n with e | e
   ·subst e;cases h
   ·exact e
  clear h
  show Nat.succ (Nat.log2 n / 32)=_
  induction n using Nat.strongRecOn with
  | _ n ih=>
   rw [zBK n hp,List.length_cons];by_cases h32:n<4294967296
   ·rw [Nat.div_eq_of_lt h32,zCI]
    have:Nat.log2 n<32:=(Nat.log2_lt (by omega)).2 (by simpa using h32);simp [Nat.div_eq_of_lt this]
   ·have hm:0<n / 4294967296:=Nat.div_pos (by omega) (by omega)
    rw [<- ih _ (Nat.div_lt_self hp (by omega)) hm];have hl:Nat.log2 n=Nat.log2 (n / 4294967296)+32:=by
     have e1:=(Nat.log2_eq_iff (n:=n / 4294967296) (k:=Nat.log2 (n / 4294967296)) (by omega)).1 rfl;refine (Nat.log2_eq_iff (by omega)).2 ⟨?_,?_⟩
     ·have:=Nat.mul_le_of_le_div _ _ _ e1.1
      rw [Nat.pow_add];simpa using this
     ·have:=(Nat.div_lt_iff_lt_mul (by omega)).1 e1.2
      rw [Nat.add_right_comm,Nat.pow_add];simpa using this
    rw [hl];simp
 ·have:n=0:=Yg h
  subst this;rfl
section
variable {P:Program}{G:Gl}{E:Env}{o:Oper}{a:Act}{ι:Io}{fz:Nat->Prop}{H:Hp}{n:Nat}{w:World}{T:Tm}{call:zAr}
theorem zJD:∀ (l:List Nat),zA5 ι fz w true (l.map zVp) (l.map u32)
 | []=>.nil _
 | d::l=>.cons _ _ _ _ _ (.i .u32 (d:Int)) (fun _=>rfl) (zJD l)
theorem zLL {t:Nat}{x y:Operand}(hE:zBV P E) (ho:o.op=.indexAddr t x y) (hI:Inv G ι fz (hget H) w) (hx:Rel ι fz w (zAf T x) (a.eval x)) (hy:Rel ι fz w (zAf T y) (a.eval y)) :
  zAB P G o a ι fz H n w (zB8 t x y E call T H n):=by
 refine zAd hE fun ti hti=>?_
 obtain ⟨i,z,d,hi,hs,hb,hz,hzr,hzl,hza,hzn,hd,hc⟩:=hti.ex;cases hn:nat? (zAf T y) with
 | none=>exact zAB.fail
 | some m=>
  obtain ⟨k,hk⟩:=zFf hn hy;simp only []
  split
  ·rename_i e hce
   rw [hce] at hc;simp only [zGS] at hc;subst hc;refine zAd hE fun te hte=>?_
   obtain ⟨ie,_,_,hie,hse,_⟩:=hte.ex;have run:∀b p len c,a.eval x=.slice (some ⟨b,p,none⟩) len c->m<len->(execOp a.eval o).run P w=.ok (.value (.pointer (some ⟨b,p+m*te.size,none⟩))) w:=by
    intro b p len c hu hlt;have h1:(0:Int)<=(m:Int)/\(m:Int)<(len:Int):=by omega
    simp only [execOp,ho,hu,hk,Instr.indexAt,asIntOf,Sem.run_bind,Sem.run_pure,Result.andThen_ok,run_underlying hd,zAj hie,zBq];rw [if_pos h1];simp only [Sem.run_bind,zAj hie,Sem.run_pure,Result.andThen_ok,Int.toNat_natCast,zBq,hse]
   split
   ·rename_i id off len k' cap e'
    rw [e'] at hx;cases hu:a.eval x <;> rw [hu] at hx <;> cases hx
    rename_i c b s hi' hmx0 hl hs' hcap
    cases hlt:Nat.ble (Nat.succ m) len
    ·exact zAB.fail
    ·have hlt':m<len:=Ym hlt
     exact zAB.same hI (run _ _ _ _ hu hlt') (.ptr _ _ _ _ hi')
   ·rename_i cs len e'
    rw [e'] at hx;cases hu:a.eval x <;> rw [hu] at hx <;> cases hx
    rename_i vs b p hf hcl hr hcc
    cases hlt:Nat.ble (Nat.succ m) len
    ·exact zAB.fail
    ·have hlt':m<len:=Ym hlt
     refine zAB.same hI (run _ _ _ _ hu hlt') ?_;rw [zBr];exact .fpt _ _ _ _ hf (zBY hcl _) (hr.drop _)
   ·rename_i v e'
    rw [e'] at hx;cases hu:a.eval x <;> rw [hu] at hx <;> cases hx
    rename_i hf hsl
    rw [zDq];cases hlt:Nat.ble (Nat.succ m) (zAa v).length
    ·exact zAB.fail
    ·cases h1:Nat.beq te.size 1
     ·exact zAB.fail
     ·have hlt':m<(zAa v).length:=Ym hlt
      have h1':te.size=1:=Yg h1;rw [hsl.len] at hlt';obtain ⟨b,p,e1,h2,h3⟩:=zOR hsl hf hlt';rw [e1] at hu;refine zAB.same hI (run _ _ _ _ hu hlt') ?_;rw [zBr,zFU,h1',Nat.mul_one];refine .fpt _ (((zAa v).take 1000).map u32 |>.drop m) _ _ h2 (fun j u hj=>h3 j u ?_) ((zJD _).drop _);rw [List.getElem?_drop,List.getElem?_map] at hj ⊢;by_cases hj':m+j<1000
      ·rwa [Xf hj'] at hj
      ·rw [List.getElem?_take_eq_none (by omega)] at hj;cases hj
   ·exact zAB.fail
  ·rename_i len e hce
   rw [hce] at hc;simp only [zGS] at hc;subst hc;refine zAd hE fun te hte=>?_
   obtain ⟨ie,_,_,hie,hse,_⟩:=hte.ex;have run:∀b p,a.eval x=.pointer (some ⟨b,p,none⟩)->m<len->(execOp a.eval o).run P w=.ok (.value (.pointer (some ⟨b,p+m*te.size,none⟩))) w:=by
    intro b p hu hlt;have h1:(0:Int)<=(m:Int)/\(m:Int)<(len:Int):=by omega
    simp only [execOp,ho,hu,hk,Instr.indexAt,asIntOf,Sem.run_bind,Sem.run_pure,Result.andThen_ok,run_underlying hd,Instr.sureAddr];rw [if_pos h1];simp only [Sem.run_bind,zAj hie,Sem.run_pure,Result.andThen_ok,Int.toNat_natCast,zBq,hse]
   split
   ·rename_i id off e'
    rw [e'] at hx;cases hu:a.eval x <;> rw [hu] at hx <;> cases hx
    rename_i b s hi'
    cases hlt:Nat.ble (Nat.succ m) len
    ·exact zAB.fail
    ·have hlt':m<len:=Ym hlt
     exact zAB.same hI (run _ _ hu hlt') (.ptr _ _ _ _ hi')
   ·rename_i cs e'
    rw [e'] at hx;cases hu:a.eval x <;> rw [hu] at hx <;> cases hx
    rename_i vs b p hf hcl hr
    cases hlt:Nat.ble (Nat.succ m) len
    ·exact zAB.fail
    ·have hlt':m<len:=Ym hlt
     refine zAB.same hI (run _ _ hu hlt') ?_;rw [zBr];exact .fpt _ _ _ _ hf (zBY hcl _) (hr.drop _)
   ·exact zAB.fail
  ·exact zAB.fail
theorem zTK {t:Nat}{x y:Operand}(hE:zBV P E) (ho:o.op=.index t x y) (hI:Inv G ι fz (hget H) w) (hx:Rel ι fz w (zAf T x) (a.eval x)) (hy:Rel ι fz w (zAf T y) (a.eval y)) :
  zAB P G o a ι fz H n w (zHQ t x y E call T H n):=by
 refine zAd hE fun ti hti=>?_
 obtain ⟨i,z,d,hi,hs,hb,hz,hzr,hzl,hza,hzn,hd,hc⟩:=hti.ex;cases hn:nat? (zAf T y) with
 | none=>exact zAB.fail
 | some m=>
  obtain ⟨k,hk⟩:=zFf hn hy;simp only []
  split
  ·rename_i len e cs hce e'
   rw [hce] at hc;simp only [zGS] at hc;subst hc;rw [e'] at hx;cases hu:a.eval x <;> rw [hu] at hx <;> cases hx
   rename_i us hr
   refine zAd hE fun te hte=>?_
   cases hlt:Nat.ble (Nat.succ m) len
   ·exact zAB.fail
   ·have hlt':m<len:=Ym hlt
    have h1:(0:Int)<=(m:Int)/\(m:Int)<(len:Int):=by omega
    refine zAB.okv hI fun v hv=>?_
    obtain ⟨u,h2,h3⟩:=zQh hte hr hv;refine ⟨u,?_,h3⟩;obtain ⟨ie,_,_,hie,hse,_⟩:=hte.ex;simp only [execOp,ho,hu,hk,Instr.index,asIntOf,Sem.run_bind,Sem.run_pure,Result.andThen_ok,run_underlying hd];rw [if_pos h1];simp only [Sem.run_bind,zAj hie,Result.andThen_ok,Int.toNat_natCast,hse]
    change Result.andThen ((part e us.toArray (Nat.mul m te.size)).run P w) _=_
    rw [h2];rfl
  ·rename_i s hce e'
   rw [hce] at hc;simp only [zGS] at hc;subst hc;rw [e'] at hx;cases hu:a.eval x <;> rw [hu] at hx <;> cases hx
   split
   ·rename_i b hb'
    rw [zE9] at hb';refine zAB.same hI (u:=.int .u8 (b.toNat:Int)) ?_ (.i _ _);have h0:(0:Int)<=(m:Int):=by omega
    have hg:s[m]? = some b:=by
     have hlt:m<s.data.size:=by have:=(Yb.1 hb').1;simpa using this
     have hsz:m<s.size:=hlt;rw [Array.getElem?_toList] at hb';rw [getElem?_pos s m hsz];rw [Array.getElem?_eq_getElem hlt] at hb';exact hb'
    simp only [execOp,ho,hu,hk,Instr.index,asIntOf,Sem.run_bind,Sem.run_pure,Result.andThen_ok,run_underlying hd,h0,if_true,Int.toNat_natCast,hg]
   ·exact zAB.fail
  ·exact zAB.fail
theorem zVb {t:Nat}{x y:Operand}(hE:zBV P E) (ho:o.op=.makeSlice t x y) (hI:Inv G ι fz (hget H) w) (hx:Rel ι fz w (zAf T x) (a.eval x)) (hy:Rel ι fz w (zAf T y) (a.eval y)) :
  zAB P G o a ι fz H n w (zLU t x y E call T H n):=by
 refine zCc hE fun e te hd hte=>?_
 obtain ⟨i,z,d,hi,hs,hb,hz,hzr,hzl,_,_,hde,hc⟩:=hte.ex
 split
 ·rename_i l c hl hcc
  obtain ⟨kl,hkl⟩:=zFf hl hx;obtain ⟨kc,hkc⟩:=zFf hcc hy;cases hle:Bool.and (Nat.ble l c) (Bool.and (Nat.ble c 16777216) (Nat.ble te.bytes 65536))
  ·exact zAB.fail
  ·simp only [Yi] at hle
   obtain ⟨h1,h2,h3⟩:=hle;have h1':l<=c:=Ym h1;have h2':c<=16777216:=Ym h2;have h3':te.bytes<=65536:=Ym h3;have hzs:z.cells.size=te.size:=by rw [<- Array.length_toList,<- (hzr ι fz w).len,hzl]
   have hbytes:(i.bytes:Int)*(c:Int)<=281474976710656:=by
    rw [hb];have:te.bytes*c<=65536*16777216:=Nat.mul_le_mul h3' h2';have:((te.bytes*c:Nat):Int)<=((65536*16777216:Nat):Int):=Int.ofNat_le.2 this;rw [Int.natCast_mul] at this;omega
   have hrun:=run_make (P:=P) w t e i z hd hi hz kl kc (l:Int) (c:Int) (by omega) (by omega) hbytes (by omega);simp only [Int.toNat_natCast] at hrun;refine zAB.new hI (k:=0) (vs:=(madeCells z.cells (c*z.cells.size)).toList) (rest:=[]) (ty:=e) (u:=.slice (some ⟨w.heap.size,0,none⟩) l c) ?_ (zFD (hzr ι fz w) c) (fun ι' w' _ h _=>?_)
   ·have hsz:i.size=z.cells.size:=by rw [hzs,hs]
    rw [hsz] at hrun;simp only [execOp,ho,hkl,hkc,Sem.run_bind,hrun,Result.andThen_ok,List.append_nil,Array.toArray_toList];rfl
   ·refine .sl n 0 l te.size (some c) _ _ c h ?_ h1' (fun m hm=>by injection hm with hm;exact hm.symm) (by omega)
    simp [size_madeCells,hzs]
 ·exact zAB.fail
end
theorem zCr (k:IntKind) (n:Int):zHd k n=k.wrap n:=by
 unfold zHd
 split
 ·rename_i m
  cases h:Nat.ble m 9223372036854775807
  ·rfl
  ·have h':m<=9223372036854775807:=Ym h
   rw [IntKind.wrap_i64]
   show (Int.ofNat m)=_
   have:(Int.ofNat m)=(m:Int):=rfl;rw [this];omega
 ·rename_i m
  cases h:Nat.ble m 9223372036854775807
  ·rfl
  ·have h':m<=9223372036854775807:=Ym h
   rw [IntKind.wrap_i64]
   show (Int.negSucc m)=_
   have:(Int.negSucc m) = -((m:Int)+1):=by omega
   rw [this];omega
 ·rename_i m
  rw [IntKind.wrap_u32]
  show ((m%4294967296:Nat):Int)=(m:Int)%4294967296
  omega
 ·rename_i m
  rw [IntKind.wrap_u64]
  show ((m%18446744073709551616:Nat):Int)=(m:Int)%18446744073709551616
  omega
 ·rfl
theorem zQe (a b:Nat):Nat.ble a b=decide (a<=b):=by
 cases h:Nat.ble a b
 ·have:¬ a<=b:=fun e=>by rw [Nat.ble_eq_true_of_le e] at h;cases h
  simp [this]
 ·have:a<=b:=Ym h
  simp [this]
theorem zeK (a b:Nat):Nat.beq a b=decide (a=b):=by
 cases h:Nat.beq a b
 ·have:a≠b:=fun e=>by subst e;simp at h
  simp [this]
 ·have:a=b:=Yg h
  simp [this]
theorem zB3 (a b:Int):ltI a b=decide (a<b):=by
 unfold ltI
 split
 ·rename_i x y
  rw [zQe];apply Xk.2
  show x+1<=y ↔ (x:Int)<(y:Int)
  omega
 ·rename_i x y
  symm
  apply Ye
  have h1:(Int.ofNat x)=(x:Int):=rfl;have h2:(Int.negSucc y) = -((y:Int)+1):=by omega
  omega
 ·rename_i x y
  symm
  apply Yf
  have h1:(Int.ofNat y)=(y:Int):=rfl;have h2:(Int.negSucc x) = -((x:Int)+1):=by omega
  omega
 ·rename_i x y
  rw [zQe];apply Xk.2
  have h1:(Int.negSucc x) = -((x:Int)+1):=by omega
  have h2:(Int.negSucc y) = -((y:Int)+1):=by omega
  rw [h1,h2]
  show y+1<=x ↔ _
  omega
theorem zDl (a b:Int):eqI a b=decide (a=b):=by
 unfold eqI
 split
 ·rename_i x y
  rw [zeK];apply Xk.2
  show x=y ↔ (x:Int)=(y:Int)
  omega
 ·rename_i x y
  rw [zeK];apply Xk.2
  have h1:(Int.negSucc x) = -((x:Int)+1):=by omega
  have h2:(Int.negSucc y) = -((y:Int)+1):=by omega
  rw [h1,h2];omega
 ·rename_i x y h1 h2
  symm
  apply Ye
  intro e;subst e;cases a
  ·exact h1 _ _ rfl rfl
  ·exact h2 _ _ rfl rfl
theorem zFx {j k:IntKind}(h:Nat.beq (kc j) (kc k)=true):j=k:=by
 cases j <;> cases k <;> first | rfl | (exact absurd h (by decide))
section
variable {P:Program}{G:Gl}{E:Env}{o:Oper}{a:Act}{ι:Io}{fz:Nat->Prop}{H:Hp}{n:Nat}{w:World}{T:Tm}{call:zAr}
theorem zHD (op:BinOp) (t:TypeId) (ox oy:Operand) (j k:IntKind) (x y:Int):(eqGuard op t ox oy (.int j x) (.int k y)).run P w=.ok () w:=by
 cases op <;> simp [eqGuard]
theorem zCW (k:IntKind) (x:Nat):(BitVec.ofInt k.bits (Int.ofNat x)).toNat=Nat.mod x (Nat.pow 2 k.bits):=by
 rw [BitVec.toNat_ofInt]
 show (((x:Nat):Int)%((2^k.bits:Nat):Int)).toNat=_
 rw [<- Int.natCast_emod,Int.toNat_natCast];rfl
theorem zIQ {op:BinOp}{t:TypeId}{k:IntKind}{x y:Int}{r:AV}{f:Nat->Nat->Nat}(h:zNi f k x y=some r)
  (hf:∀m j:Nat,(binOp op t (.int k (Int.ofNat m)) (.int k (Int.ofNat j))).run P w=.ok (.int k (k.wrap (Int.ofNat (f (Nat.mod m (Nat.pow 2 k.bits)) (Nat.mod j (Nat.pow 2 k.bits)))))) w) :
  ∃s,(binOp op t (.int k x) (.int k y)).run P w=.ok s w/\Rel ι fz w r s:=by
 unfold zNi at h
 split at h
 ·rename_i m j
  injection h with h
  subst h;refine ⟨_,hf m j,?_⟩;rw [zCr];exact .i _ _
 ·cases h
theorem zNe {op:BinOp}{t:TypeId}{k:IntKind}{x y:Int}{r:AV}(hs:zK6 op=false) (h:zR6 op k x y=some r):∃s,(binOp op t (.int k x) (.int k y)).run P w=.ok s w/\Rel ι fz w r s:=by
 unfold zR6 at h
 split at h
 ·cases h;exact ⟨.int k (k.wrap (x+y)),by simp [binOp,Op.intArith],by rw [zCr];exact .i _ _⟩
 ·cases h;exact ⟨.int k (k.wrap (x - y)),by simp [binOp,Op.intArith],by rw [zCr];exact .i _ _⟩
 ·cases h;exact ⟨.int k (k.wrap (x*y)),by simp [binOp,Op.intArith],by rw [zCr];exact .i _ _⟩
 ·rw [zDl] at h
  by_cases h0:y=0
  ·subst h0;cases h
  ·have e:decide (y=Int.ofNat 0)=false:=Ye h0
   rw [e] at h;cases h;exact ⟨.int k (k.wrap (x.tdiv y)),by simp [binOp,Op.intDiv,h0],by rw [zCr];exact .i _ _⟩
 ·rw [zDl] at h
  by_cases h0:y=0
  ·subst h0;cases h
  ·have e:decide (y=Int.ofNat 0)=false:=Ye h0
   rw [e] at h;cases h;exact ⟨.int k (x.tmod y),by simp [binOp,Op.intDiv,h0],.i _ _⟩
 ·cases h;exact ⟨.bool (x == y),by simp [binOp,Op.intCmp],by rw [zDl];exact .b _⟩
 ·cases h;exact ⟨.bool (x != y),by simp [binOp,Op.intCmp],by
   rw [zDl];have:(x != y)=(decide (x=y)).not:=by by_cases e:x=y <;> simp [e]
   rw [this];exact .b _⟩
 ·cases h;exact ⟨.bool (x<y),by simp [binOp,Op.intCmp],by rw [zB3];exact .b _⟩
 ·cases h;exact ⟨.bool (x<=y),by simp [binOp,Op.intCmp],by
   rw [zB3];have:decide (x<=y)=(decide (y<x)).not:=by by_cases e:y<x <;> simp [e] <;> omega
   rw [this];exact .b _⟩
 ·cases h;exact ⟨.bool (x > y),by simp [binOp,Op.intCmp],by rw [zB3];exact .b _⟩
 ·cases h;exact ⟨.bool (x >= y),by simp [binOp,Op.intCmp],by
   rw [zB3];have:decide (x >= y)=(decide (x<y)).not:=by by_cases e:x<y <;> simp [e] <;> omega
   rw [this];exact .b _⟩
 ·refine zIQ h fun m j=>?_
  have e:(BitVec.ofInt k.bits (Int.ofNat m) &&& BitVec.ofInt k.bits (Int.ofNat j)).toNat=Nat.land (Nat.mod m (Nat.pow 2 k.bits)) (Nat.mod j (Nat.pow 2 k.bits)):=by
   rw [BitVec.toNat_and,zCW,zCW];rfl
  simp only [binOp,Op.intBits,e,ne_eq,not_true_eq_false,if_false];rfl
 ·refine zIQ h fun m j=>?_
  have e:(BitVec.ofInt k.bits (Int.ofNat m) ||| BitVec.ofInt k.bits (Int.ofNat j)).toNat=Nat.lor (Nat.mod m (Nat.pow 2 k.bits)) (Nat.mod j (Nat.pow 2 k.bits)):=by
   rw [BitVec.toNat_or,zCW,zCW];rfl
  simp only [binOp,Op.intBits,e,ne_eq,not_true_eq_false,if_false];rfl
 ·refine zIQ h fun m j=>?_
  have e:(BitVec.ofInt k.bits (Int.ofNat m) ^^^ BitVec.ofInt k.bits (Int.ofNat j)).toNat=Nat.xor (Nat.mod m (Nat.pow 2 k.bits)) (Nat.mod j (Nat.pow 2 k.bits)):=by
   rw [BitVec.toNat_xor,zCW,zCW];rfl
  simp only [binOp,Op.intBits,e,ne_eq,not_true_eq_false,if_false];rfl
 ·cases h
theorem zO9 {op:BinOp}{t:TypeId}{k k':IntKind}{x y:Int}{r:AV}(h:zO8 op k x y=some r):∃s,(binOp op t (.int k x) (.int k' y)).run P w=.ok s w/\Rel ι fz w r s:=by
 unfold zO8 at h
 split at h
 ·rename_i m j
  rw [zQe] at h;by_cases hj:j<=k.bits
  ·rw [Yf hj] at h
   have hn:¬ ((j:Int)<0):=by omega
   have hmin:min j k.bits=j:=by omega
   have hp:((2:Int)^j)=((2^j:Nat):Int):=by simp
   dsimp only at h
   split at h
   ·cases h
    refine ⟨.int k (k.wrap ((m:Int)*2^j)),?_,?_⟩
    ·simp [binOp,Op.shift,hn,hmin]
    ·rw [zCr]
     have:(Int.ofNat (Nat.mul m (Nat.pow 2 j)))=(m:Int)*2^j:=by
      rw [hp,<- Int.natCast_mul];rfl
     rw [this];exact .i _ _
   ·cases h
    refine ⟨.int k ((m:Int).fdiv (2^j)),?_,?_⟩
    ·simp [binOp,Op.shift,hn,hmin]
    ·have:(Int.ofNat (Nat.div m (Nat.pow 2 j)))=(m:Int).fdiv (2^j):=by
      rw [hp,Int.fdiv_eq_ediv_of_nonneg _ (Int.natCast_nonneg _)];rfl
     rw [this];exact .i _ _
   ·cases h
  ·rw [Ye hj] at h;cases h
 ·cases h
theorem zCd (x y:AV) (xs ys:List AV):zCo (x::xs) (y::ys)=(match x,y with
  | .i j a,.i k b=>(Bool.rec none (Bool.rec (some false) (zCo xs ys) (eqI a b)) (Nat.beq (kc j) (kc k)):Option Bool)
  | _,_=>none):=rfl
theorem zHs:∀ (a b ys:List AV) (r:Bool),zCo (a++b) ys=some r->(r=false/\zCo a (ys.take a.length)=some false)\/(zCo a (ys.take a.length)=some true/\zCo b (ys.drop a.length)=some r)
 | [],b,ys,r,h=>.inr ⟨rfl,by simpa using h⟩
 | x::a,b,[],r,h=>by cases h
 | x::a,b,y::ys,r,h=>by
  rw [List.cons_append,zCd] at h;rw [List.length_cons,List.take_succ_cons,List.drop_succ_cons,zCd]
  split at h
  ·rename_i j p k q
   cases hk:Nat.beq (kc j) (kc k)
   ·rw [hk] at h;cases h
   ·rw [hk] at h
    dsimp only at h ⊢;cases he:eqI p q
    ·rw [he] at h;cases h;exact .inl ⟨rfl,rfl⟩
    ·rw [he] at h
     exact zHs a b ys r h
  ·cases h
def Whole (P:Program) (t:TypeId) (us:List Value) (u:Value):Prop:=
 ∃d,P.underlying t=some d/\((zBZ d=true/\u=.agg us.toArray)\/(zBZ d=false/\us=[u]))
theorem zFd {L:TypeId->Nat->Prop}:∀ {fs:List Field}{o e:Nat},zFO L fs o e->o<=e
 | [],o,e,h=>Ys h
 | f::fs,o,e,h=>by
  obtain ⟨_,_,s,_,h⟩:=h;have:=zFd h;omega
theorem zFg {d:Nat}{t:TypeId}{s:Nat}(h:zHW P d t s) (us:List Value) (off:Nat) (hne:s=1->off<us.length) (w:World) :
  ∃u,(part t us.toArray off).run P w=.ok u w/\Whole P t ((us.drop off).take s) u:=by
 cases d with
 | zero=>cases h
 | succ d=>
  rcases h with ⟨k,i,h1,h2,h3,rfl⟩ | ⟨fields,i,h1,h2,h3,h4,h5⟩
  ·have hl:=hne rfl
   refine ⟨us[off],?_,_,h1,.inr ⟨rfl,?_⟩⟩
   ·unfold part
    rw [Sem.run_bind,zEE h1];simp [zBZ,hl]
   ·rw [List.drop_eq_getElem_cons hl]
    rfl
  ·refine ⟨.agg ((us.drop off).take s).toArray,?_,_,h1,.inl ⟨rfl,rfl⟩⟩
   unfold part;rw [Sem.run_bind,zEE h1];simp only [zBZ,Result.andThen_ok,if_true,Sem.run_bind,zAj h3,Sem.run_pure,h4]
   congr 2
   apply Array.toList_inj.1
   rw [Array.toList_extract,List.extract_eq_take_drop];simp
theorem zf4 {d D:Nat}{us vs:List Value}{xs ys:List AV}{e:Nat}(hx:zA5 ι fz w true xs us) (hy:zA5 ι fz w true ys vs) (hl:xs.length=e)
  (ih:∀t s,zHW P d t s->∀ (xs ys:List AV) (us vs:List Value) (u v:Value) (r:Bool),Whole P t us u->Whole P t vs v->zA5 ι fz w true xs us->zA5 ι fz w true ys vs->xs.length=s->zCo xs ys=some r->(Op.equalIn (D+d) t u v).run P w=.ok r w) :
  ∀ (fs:List Field) (o:Nat),zFO (zHW P d) fs o e->∀r,zCo (xs.drop o) (ys.drop o)=some r->(Op.eqFields (D+d) us.toArray vs.toArray fs).run P w=.ok r w
 | [],o,h,r,hr=>by
  have h:o=e:=h;rw [List.drop_eq_nil_of_le (by omega)] at hr;cases e2:ys.drop o with
  | nil=>rw [e2] at hr;cases hr;rfl
  | cons=>rw [e2] at hr;cases hr
 | f::fs,o,h,r,hr=>by
  obtain ⟨h1,h2,s,h3,h4⟩:=h;have hle:=zFd h4;have hsplit:xs.drop o=(xs.drop o).take s++xs.drop (o+s):=by
   rw [<- List.drop_drop,List.take_append_drop]
  have hlen:((xs.drop o).take s).length=s:=by rw [Yr,List.length_drop];omega
  have hlu:=hx.len;rw [hsplit] at hr;have hr2:=zHs _ _ _ _ hr;rw [hlen] at hr2;obtain ⟨u,p1,q1⟩:=zFg h3 us o (fun _=>by omega) w;have hne:s=1->o<vs.length:=by
   intro e1;subst e1;rw [<- hy.len];rcases Xj o ys.length with h5 | h5
   ·exact h5
   ·exfalso
    rw [List.drop_eq_nil_of_le h5] at hr2;cases ea:(xs.drop o).take 1 with
    | nil=>rw [ea] at hlen;cases hlen
    | cons a l=>rw [ea] at hr2;rcases hr2 with ⟨_,h6⟩ | ⟨h6,_⟩ <;> cases h6
  obtain ⟨v,p2,q2⟩:=zFg h3 vs o hne w;have p3:=fun b hb=>ih f.type s h3 ((xs.drop o).take s) ((ys.drop o).take s) _ _ u v b q1 q2 ((hx.drop o).take s) ((hy.drop o).take s) hlen hb
  rw [h1.symm] at p1 p2;rcases hr2 with ⟨rfl,h6⟩ | ⟨h6,h7⟩
  ·simp only [Op.eqFields,h2,ne_eq,not_false_eq_true,if_true,Sem.run_bind,p1,p2,p3 _ h6,Result.andThen_ok,Bool.not_false,Sem.run_pure]
  ·simp only [Op.eqFields,h2,ne_eq,not_false_eq_true,if_true,Sem.run_bind,p1,p2,p3 _ h6,Result.andThen_ok,Bool.not_true,Bool.false_eq_true,if_false]
   rw [List.drop_drop] at h7;exact zf4 hx hy hl ih fs (o+s) h4 r h7
theorem zIc (D:Nat):∀ (d:Nat) (t:TypeId) (s:Nat),zHW P d t s->∀ (xs ys:List AV) (us vs:List Value) (u v:Value) (r:Bool),Whole P t us u->Whole P t vs v->zA5 ι fz w true xs us->zA5 ι fz w true ys vs->xs.length=s->zCo xs ys=some r->(Op.equalIn (D+d) t u v).run P w=.ok r w
 | 0,t,s,h=>by cases h
 | d+1,t,s,h=>by
  intro xs ys us vs u v r ⟨d1,h1,hu⟩ ⟨d2,h2,hv⟩ hx hy hl hr;rw [h1] at h2;injection h2 with h2
  subst h2;rcases h with ⟨k,i,g1,g2,g3,rfl⟩ | ⟨fields,i,g1,g2,g3,g4,g5⟩
  ·rw [h1] at g1
   injection g1 with g1
   subst g1;have hu:us=[u]:=by
                rcases hu with ⟨h,_⟩ | ⟨_,h⟩; · cases h
                ·exact h
   have hv:vs=[v]:=by
                rcases hv with ⟨h,_⟩ | ⟨_,h⟩; · cases h
                ·exact h
   subst hu hv;cases hx with
   | cons _ x _ xs _ hx _ hxs=>
    cases hxs;cases hy with
    | cons _ y _ ys _ hy _ hys=>
     cases hys;rw [zCd] at hr
     split at hr
     ·rename_i j a j' b
      cases hk:Nat.beq (kc j) (kc j')
      ·rw [hk] at hr;cases hr
      ·rw [hk] at hr
       have:=zFx hk;subst this;cases hx;cases hy;rw [<- Nat.add_assoc,run_equalIn_int (P:=P) w (D+d) t j k a b h1];dsimp only at hr;rw [zDl] at hr;by_cases hab:a=b
       ·rw [Yf hab] at hr
        cases hr;simp [hab]
       ·rw [Ye hab] at hr
        cases hr;simp [hab]
     ·cases hr
  ·rw [h1] at g1
   injection g1 with g1
   subst g1;have hu:u=.agg us.toArray:=by
                     rcases hu with ⟨_,h⟩ | ⟨h,_⟩; · exact h
                     ·cases h
   have hv:v=.agg vs.toArray:=by
                     rcases hv with ⟨_,h⟩ | ⟨h,_⟩; · exact h
                     ·cases h
   subst hu hv;have hfo:P.fieldsOf t=fields:=by simp [Program.fieldsOf,h1]
   have e1:=run_equalIn_struct (P:=P) w (D+d) t us.toArray vs.toArray (by rw [hfo];exact h1) g2;rw [hfo] at e1;rw [<- Nat.add_assoc,e1];exact zf4 hx hy hl (zIc D d) fields.toList 0 g5 r (by simpa using hr)
theorem zN0 {op:BinOp}{t:Bool}{r:AV}(h:zRO op t=some r):(op=.eql/\r=.b t)\/(op=.neq/\r=.b (!t)):=by
 unfold zRO at h
 split at h
 ·cases h;exact .inl ⟨rfl,rfl⟩
 ·cases h;exact .inr ⟨rfl,rfl⟩
 ·cases h
end
section
variable {P:Program}{G:Gl}{E:Env}{o:Oper}{a:Act}{ι:Io}{fz:Nat->Prop}{H:Hp}{n:Nat}{w:World}{T:Tm}{call:zAr}
theorem zFb {x:AV}{b:Bool}{u:Value}(h:zOD x=some b) (hr:Rel ι fz w x u):(b=true/\∃l c,u=.slice none l c)\/(b=false/\∃ad l c,u=.slice (some ad) l c):=by
 unfold zOD at h
 split at h
 ·cases h;cases hr;exact .inl ⟨rfl,_,_,rfl⟩
 ·cases h;cases hr;exact .inr ⟨rfl,_,_,_,rfl⟩
 ·cases h;cases hr;exact .inr ⟨rfl,_,_,_,rfl⟩
 ·rename_i m
  cases h0:Nat.beq m 0
  ·rw [h0] at h
   cases h;cases hr with
   | lim _ A len c hsl hf=>
    have hp:0<m:=by
     rcases Xm m with e | e
     ·subst e;cases h0
     ·exact e
    have hl:0<len:=by rw [<- hsl.len,zBK m hp];simp
    obtain ⟨b,off,e,_⟩:=hsl.at_ hl;subst e;exact .inr ⟨rfl,_,_,_,rfl⟩
  ·rw [h0] at h;cases h
 ·cases h
theorem zFa {x:AV}{b:Bool}{u:Value}(h:zOC x=some b) (hr:Rel ι fz w x u):(b=true/\u=.pointer none)\/(b=false/\∃ad,u=.pointer (some ad)):=by
 unfold zOC at h
 split at h
 ·cases h;cases hr;exact .inl ⟨rfl,rfl⟩
 ·cases h;cases hr;exact .inr ⟨rfl,_,rfl⟩
 ·cases h;cases hr;exact .inr ⟨rfl,_,rfl⟩
 ·cases h
theorem zFZ {x:AV}{b:Bool}{u:Value}(h:zOB x=some b) (hr:Rel ι fz w x u):(b=true/\u=.nilFunc)\/(b=false/\∃f y z,u=.func f y z):=by
 unfold zOB at h
 split at h
 ·cases h;cases hr;exact .inl ⟨rfl,rfl⟩
 ·cases h;cases hr;exact .inr ⟨rfl,_,_,_,rfl⟩
 ·cases h
theorem zC9 (op:BinOp) (t:TypeId) (ox oy:Operand) (u v:Value) (h:∀x y,¬ (u=.agg x/\v=.agg y)) (h2:¬ (u=.nilIface/\v=.nilIface)):(eqGuard op t ox oy u v).run P w=.ok () w:=by
 cases op <;> first | rfl | (cases u <;> cases v <;> first | rfl | exact absurd ⟨rfl,rfl⟩ h2 | exact absurd ⟨rfl,rfl⟩ (h _ _))
theorem zTB {t:TypeId}{e:TypeId}(hd:P.underlying t=some (.pointer e)) (d:Nat) (b:Option Addr):(Op.equalIn (d+1) t (.pointer none) (.pointer b)).run P w=.ok b.isNone w:=by simp [Op.equalIn,run_underlying hd]
theorem run_eqP' {t:TypeId}{e:TypeId}(hd:P.underlying t=some (.pointer e)) (d:Nat) (x:Addr):(Op.equalIn (d+1) t (.pointer (some x)) (.pointer none)).run P w=.ok false w:=by simp [Op.equalIn,run_underlying hd]
theorem zTC {t:TypeId}{e:TypeId}(hd:P.underlying t=some (.slice e)) (d:Nat) (l c l' c':Nat) (b:Option Addr):(Op.equalIn (d+1) t (.slice none l c) (.slice b l' c')).run P w=.ok b.isNone w:=by simp [Op.equalIn,run_underlying hd]
theorem run_eqS' {t:TypeId}{e:TypeId}(hd:P.underlying t=some (.slice e)) (d:Nat) (l c l' c':Nat) (x:Addr):(Op.equalIn (d+1) t (.slice (some x) l c) (.slice none l' c')).run P w=.ok false w:=by simp [Op.equalIn,run_underlying hd]
theorem zTA {t:TypeId}{p q:Array TypeId}{v:Bool}(hd:P.underlying t=some (.func p q v)) (d:Nat):(Op.equalIn (d+1) t .nilFunc .nilFunc).run P w=.ok true w:=by simp [Op.equalIn,run_underlying hd]
theorem zQr {t:TypeId}{p q:Array TypeId}{v:Bool}(hd:P.underlying t=some (.func p q v)) (d:Nat) (f:Fn) (x y:Array Value):(Op.equalIn (d+1) t .nilFunc (.func f x y)).run P w=.ok false w:=by simp [Op.equalIn,run_underlying hd]
theorem zQs {t:TypeId}{p q:Array TypeId}{v:Bool}(hd:P.underlying t=some (.func p q v)) (d:Nat) (f:Fn) (x y:Array Value):(Op.equalIn (d+1) t (.func f x y) .nilFunc).run P w=.ok false w:=by simp [Op.equalIn,run_underlying hd]
theorem zCp {op:BinOp}{t:Nat}{u v:Value}{b:Bool}{r:AV}(hop:zRO op b=some r) (he:(Op.equal t u v).run P w=.ok b w) (k2:(∀x y,¬ (u=.agg x/\v=.agg y))\/P.eqGuardType P.depth t=false) (k1:u ≠ .nilIface) (k3:∀k n,u ≠ .int k n) (k4:∀k n,u ≠ .float k n)
  (k5:∀k m n,u ≠ .complex k m n) (k6:∀s,u ≠ .string s) (ox oy:Operand):∃s,(do eqGuard op t ox oy u v;binOp op t u v:Sem Value).run P w=.ok s w/\Rel ι fz w r s:=by
 have hg:(eqGuard op t ox oy u v).run P w=.ok () w:=by
  by_cases hag:∃x y,u=.agg x/\v=.agg y
  ·obtain ⟨x,y,rfl,rfl⟩:=hag
   rcases k2 with k2 | k2
   ·exact absurd ⟨rfl,rfl⟩ (k2 x y)
   ·exact run_eqGuard_agg w op t ox oy x y k2
  ·exact zC9 op t ox oy u v (fun x y e=>hag ⟨x,y,e⟩) (fun e=>k1 e.1)
 rw [Sem.run_bind,hg];simp only [Result.andThen_ok];rcases zN0 hop with ⟨rfl,rfl⟩ | ⟨rfl,rfl⟩
 ·refine ⟨.bool b,?_,.b _⟩
  unfold binOp
  split <;> first
   | (exact absurd rfl (k3 _ _)) | (exact absurd rfl (k4 _ _)) | (exact absurd rfl (k5 _ _ _)) | (exact absurd rfl (k6 _)) | contradiction | skip
  all_goals simp only [Sem.run_bind,he,Result.andThen_ok,Sem.run_pure]
 ·refine ⟨.bool (!b),?_,.b _⟩
  unfold binOp
  split <;> first
   | (exact absurd rfl (k3 _ _)) | (exact absurd rfl (k4 _ _)) | (exact absurd rfl (k5 _ _ _)) | (exact absurd rfl (k6 _)) | contradiction | skip
  all_goals simp only [Sem.run_bind,he,Result.andThen_ok,Sem.run_pure]
theorem zEh {isNil:AV->Option Bool}{op:BinOp}{x y r:AV}(h:zEu.nilCmp isNil op x y=some r):∃b c,isNil x=some b/\isNil y=some c/\(b=true\/c=true)/\zRO op (b && c)=some r:=by
 unfold zEu.nilCmp at h;obtain ⟨b,hb,h⟩:=zAW h;obtain ⟨c,hc,h⟩:=zAW h;refine ⟨b,c,hb,hc,?_⟩;cases b
 ·cases c
  ·cases h
  ·exact ⟨.inr rfl,h⟩
 ·exact ⟨.inl rfl,h⟩
theorem zJW {op:BinOp}{t:Nat}{ti:TI}{x y r:AV}{u v:Value}(hok:zMV P t ti) (h:zEu ti op x y=some r) (hx:Rel ι fz w x u) (hy:Rel ι fz w y v) (ox oy:Operand) :
  ∃s,(do eqGuard op t ox oy u v;binOp op t u v:Sem Value).run P w=.ok s w/\Rel ι fz w r s:=by
 obtain ⟨i,z,d,hi,hsz,hb,hz,hzr,hzl,hza,hzn,hd,hc⟩:=hok.ex;clear hza hzn hzr hz hi hb;unfold zEu at h
 split at h
 ·rename_i hce
  rw [hce] at hc;simp only [zGS] at hc
  split at h
  ·rename_i s1 s2
   cases hx;cases hy;rw [Sem.run_bind,zC9 op t ox oy _ _ (by simp) (by simp)];simp only [Result.andThen_ok];have hs1:s1.toList=s1.data.toList:=by rw [ByteArray.toList_eq]
   have hs2:s2.toList=s2.data.toList:=by rw [ByteArray.toList_eq]
   have hrun:(binOp op t (.string s1) (.string s2)).run P w=(Op.stringOp op s1 s2).run P w:=by
    cases op <;> first | rfl | (cases h)
   unfold zVj at h;rw [hrun];unfold Op.stringOp;rw [hs1,hs2]
   split at h <;> first | (cases h;exact ⟨_,rfl,.b _⟩) | cases h
  ·cases h
 ·rename_i hce
  rw [hce] at hc;simp only [zGS] at hc;subst hc
  split at h
  ·rename_i p q
   cases hx;cases hy;refine zCp (b:=p == q) ?_ ?_ (.inl (by simp)) (by simp) (by simp) (by simp) (by simp) (by simp) ox oy
   ·rw [<- h]
    cases p <;> cases q <;> rfl
   ·exact run_equalIn_bool' (P:=P) w 9999 t p q hd
  ·cases h
 ·rename_i fs hce
  rw [hce] at hc;cases heq:ti.eq
  ·rw [heq] at h;cases h
  ·rw [heq] at h
   dsimp only at h
   split at h
   ·rename_i xs ys
    cases hl0:Nat.beq (zJK xs) ti.size
    ·rw [hl0] at h;cases h
    ·rw [hl0] at h
     have hl1:=Yg hl0;rw [zCx] at hl1;cases hx with
     | agg _ us hru=>
      cases hy with
      | agg _ vs hrv=>
       obtain ⟨b,hb',hop⟩:=zAW h;obtain ⟨g1,⟨fields,g3⟩,g4⟩:=hok.eq heq;refine zCp hop ?_ (.inr g1) (by simp) (by simp) (by simp) (by simp) (by simp) ox oy;exact zIc (P:=P) (w:=w) (ι:=ι) (fz:=fz) 9991 9 t ti.size g4 xs ys us vs _ _ b ⟨_,g3,.inl ⟨rfl,rfl⟩⟩ ⟨_,g3,.inl ⟨rfl,rfl⟩⟩ hru hrv hl1 hb'
   ·cases h
 ·rename_i hce
  rw [hce] at hc;obtain ⟨e,rfl⟩:=hc;obtain ⟨b,c,hb',hc',hor,hop⟩:=zEh h;rcases zFa hb' hx with ⟨rfl,rfl⟩ | ⟨rfl,ad,rfl⟩
  ·refine zCp hop ?_ (.inl (by simp)) (by simp) (by simp) (by simp) (by simp) (by simp) ox oy
   rcases zFa hc' hy with ⟨rfl,rfl⟩ | ⟨rfl,ad,rfl⟩ <;> exact zTB hd 9999 _
  ·refine zCp hop ?_ (.inl (by simp)) (by simp) (by simp) (by simp) (by simp) (by simp) ox oy
   rcases zFa hc' hy with ⟨rfl,rfl⟩ | ⟨rfl,ad,rfl⟩
   ·exact run_eqP' hd 9999 _
   ·simp at hor
 ·rename_i e hce
  rw [hce] at hc;simp only [zGS] at hc;subst hc;obtain ⟨b,c,hb',hc',hor,hop⟩:=zEh h;rcases zFb hb' hx with ⟨rfl,_,_,rfl⟩ | ⟨rfl,ad,_,_,rfl⟩
  ·refine zCp hop ?_ (.inl (by simp)) (by simp) (by simp) (by simp) (by simp) (by simp) ox oy
   rcases zFb hc' hy with ⟨rfl,_,_,rfl⟩ | ⟨rfl,ad,_,_,rfl⟩ <;> exact zTC hd 9999 _ _ _ _ _
  ·refine zCp hop ?_ (.inl (by simp)) (by simp) (by simp) (by simp) (by simp) (by simp) ox oy
   rcases zFb hc' hy with ⟨rfl,_,_,rfl⟩ | ⟨rfl,ad,_,_,rfl⟩
   ·exact run_eqS' hd 9999 _ _ _ _ _
   ·simp at hor
 ·rename_i hce
  rw [hce] at hc;obtain ⟨_,_,_,rfl⟩:=hc;obtain ⟨b,c,hb',hc',hor,hop⟩:=zEh h;rcases zFZ hb' hx with ⟨rfl,rfl⟩ | ⟨rfl,_,_,_,rfl⟩
  ·refine zCp hop ?_ (.inl (by simp)) (by simp) (by simp) (by simp) (by simp) (by simp) ox oy
   rcases zFZ hc' hy with ⟨rfl,rfl⟩ | ⟨rfl,_,_,_,rfl⟩
   ·exact zTA hd 9999
   ·exact zQr hd 9999 _ _ _
  ·refine zCp hop ?_ (.inl (by simp)) (by simp) (by simp) (by simp) (by simp) (by simp) ox oy
   rcases zFZ hc' hy with ⟨rfl,rfl⟩ | ⟨rfl,_,_,_,rfl⟩
   ·exact zQs hd 9999 _ _ _
   ·simp at hor
 ·cases h
theorem zNh {op:BinOp}{t:Nat}{x y r:AV}{u v:Value}(hE:zBV P E) (h:Go.Proofs.YtngjhigieajkmaaGreatDoor.binop E op t x y=some r) (hx:Rel ι fz w x u) (hy:Rel ι fz w y v) (ox oy:Operand) :
  ∃s,(do eqGuard op t ox oy u v;binOp op t u v:Sem Value).run P w=.ok s w/\Rel ι fz w r s:=by
 unfold Go.Proofs.YtngjhigieajkmaaGreatDoor.binop at h
 split at h
 ·rename_i k p
  cases hx
  split at h
  ·rename_i k' q
   cases hy;rw [Sem.run_bind,zHD];simp only [Result.andThen_ok];cases hs:zK6 op
   ·rw [hs] at h
    cases hk:Nat.beq (kc k) (kc k')
    ·rw [hk] at h;cases h
    ·rw [hk] at h
     have:=zFx hk;subst this;exact zNe hs h
   ·rw [hs] at h
    exact zO9 h
  ·cases h
 ·obtain ⟨ti,hti,h⟩:=zAW h
  exact zJW (hE t ti hti) h hx hy ox oy
theorem zeO {op:BinOp}{t t':Nat}{x y:Operand}(hE:zBV P E) (ho:o.op=.binOp op t x y t') (hI:Inv G ι fz (hget H) w) (hx:Rel ι fz w (zAf T x) (a.eval x)) (hy:Rel ι fz w (zAf T y) (a.eval y)) :
  zAB P G o a ι fz H n w (zTb op t x y t' E call T H n):=by
 refine zAB.okv hI fun r hr=>?_
 obtain ⟨s,h1,h2⟩:=zNh hE hr hx hy x y;refine ⟨s,?_,h2⟩;simp only [execOp,ho];rw [Sem.run_bind,h1];rfl
theorem zkI {op:UnOp}{t:Nat}{x:Operand}(ho:o.op=.unOp op t x) (hI:Inv G ι fz (hget H) w) (hx:Rel ι fz w (zAf T x) (a.eval x)):zAB P G o a ι fz H n w (xUn op t x E call T H n):=by
 unfold xUn
 split
 ·rename_i k p e
  rw [e] at hx;cases hu:a.eval x <;> rw [hu] at hx <;> cases hx
  rw [zCr];refine zAB.same hI (u:=.int k (k.wrap (0 - p))) ?_ ?_
  ·simp only [execOp,ho,hu,Op.unary,Op.intArith,Sem.run_bind,Sem.run_pure,Result.andThen_ok]
  ·have:(0:Int) - p=Int.neg p:=by show (0:Int) - p = -p;omega
   rw [this];exact .i _ _
 ·rename_i b e
  rw [e] at hx;cases hu:a.eval x <;> rw [hu] at hx <;> cases hx
  refine zAB.same hI (u:=.bool !b) ?_ (.b _);simp only [execOp,ho,hu,Op.unary,Sem.run_bind,Sem.run_pure,Result.andThen_ok]
 ·exact zAB.fail
theorem zVX {t t':Nat}{x:Operand}(hE:zBV P E) (ho:o.op=.convert t t' x) (hI:Inv G ι fz (hget H) w) (hx:Rel ι fz w (zAf T x) (a.eval x)) :
  zAB P G o a ι fz H n w (zLT t t' x E call T H n):=by
 refine zAd hE fun ts hts=>zAd hE fun ti hti=>?_
 obtain ⟨i,z,d,hi,hs,hb,hz,hzr,hzl,hza,hzn,hd,hc⟩:=hti.ex;obtain ⟨_,_,ds,_,_,_,_,_,_,_,_,hds,_⟩:=hts.ex
 split
 ·rename_i k k' p hce e
  rw [hce] at hc;simp only [zGS] at hc;subst hc;rw [e] at hx;cases hu:a.eval x <;> rw [hu] at hx <;> cases hx
  rw [zCr];refine zAB.same hI (u:=.int k (k.wrap p)) ?_ (.i _ _);simp only [execOp,ho,hu,convert,Sem.run_bind,run_underlying hds,run_underlying hd,Result.andThen_ok,Conv.intToInt,Sem.run_pure]
 ·exact zAB.fail
end
section
variable {P:Program}{G:Gl}{E:Env}{o:Oper}{a:Act}{ι:Io}{fz:Nat->Prop}{H:Hp}{n:Nat}{w:World}{T:Tm}{call:zAr}
theorem zH9 {id off len k:Nat}{cap:Option Nat}{u:Value}(h:Rel ι fz w (.sl id off len k cap) u):∃b s c,u=.slice (some ⟨b,off,none⟩) len c/\ι id=some (b,s)/\off+c*k<=s/\len<=c/\(∀m,cap=some m->m=c)/\c<=9223372036854775807:=by
 cases h with | sl _ _ _ _ _ b s c hi hs hl hc hm=>exact ⟨b,s,c,rfl,hi,hs,hl,hc,hm⟩
theorem zLG {cs:List AV}{len:Nat}{u:Value}(h:Rel ι fz w (.fsl cs len) u):∃vs b p c,u=.slice (some ⟨b,p,none⟩) len c/\fz b/\zA1 w b p vs/\len<=c/\zA5 ι fz w true cs vs:=by
 cases h with | fsl _ vs _ b p c hf hc hl h=>exact ⟨vs,b,p,c,rfl,hf,hc,hl,h⟩
theorem zM3 {x u:Value}(h:Rel ι fz w (.v x) u):u=x:=by cases h;rfl
theorem zG9 {m:Nat}{u:Value}(h:Rel ι fz w (.lim m) u):∃A len c,u=.slice A len c/\SL w A len c (zAa m)/\∀ad,A=some ad->0<len->fz ad.block:=by
 cases h with | lim _ A len c h hf=>exact ⟨A,len,c,rfl,h,hf⟩
theorem zVQ {k:IntKind}{m:Int}{u:Value}(h:Rel ι fz w (.i k m) u):u=.int k m:=by cases h;rfl
theorem zD1 {lo hi mx:Option Operand}{len cap l h m:Nat}(hlo:∀x,lo=some x->Rel ι fz w (zAf T x) (a.eval x)) (hhi:∀x,hi=some x->Rel ι fz w (zAf T x) (a.eval x)) (hmx:∀x,mx=some x->Rel ι fz w (zAf T x) (a.eval x))
  (h1:zNS T 0 lo=some l) (h2:zNS T len hi=some h) (h3:zNS T cap mx=some m) (hlh:l<=h) (hhm:h<=m) (hmc:m<=cap) (hboth:mx.isSome=true->hi.isSome=true) :
  (Instr.sliceBounds true len cap (lo.map a.eval) (hi.map a.eval) (mx.map a.eval)).run P w=.ok (l,h,m) w:=by
 have one:∀ (x:Operand) (q y:Nat) (code:BoundsCode),Rel ι fz w (zAf T x) (a.eval x)->nat? (zAf T x)=some q->q<=y->(Instr.sliceBound (a.eval x) y code).run P w=.ok q w:=by
  intro x q y code hr hq hy;obtain ⟨k,hk⟩:=zFf hq hr;rw [hk,run_sliceBound w k (q:Int) y code (by omega) (by omega)];simp
 unfold Instr.sliceBounds;cases mx with
 | none=>
  injection h3 with h3
  subst h3;cases hi with
  | none=>
   injection h2 with h2
   subst h2;cases lo with
   | none=>injection h1 with h1;subst h1;simp
   | some x=>simp [one x l _ _ (hlo x rfl) h1 hlh]
  | some y=>
   cases lo with
   | none=>injection h1 with h1;subst h1;simp [one y h _ _ (hhi y rfl) h2 hhm]
   | some x=>simp [one y h _ _ (hhi y rfl) h2 hhm,one x l _ _ (hlo x rfl) h1 hlh]
 | some z=>
  cases hi with
  | none=>simp at hboth
  | some y=>
   cases lo with
   | none=>injection h1 with h1;subst h1;simp [one z m _ _ (hmx z rfl) h3 hmc,one y h _ _ (hhi y rfl) h2 hhm]
   | some x=>simp [one z m _ _ (hmx z rfl) h3 hmc,one y h _ _ (hhi y rfl) h2 hhm,one x l _ _ (hlo x rfl) h1 hlh]
theorem zTL {t:Nat}{x:Operand}{lo hi mx:Option Operand}(hE:zBV P E) (ho:o.op=.slice t x lo hi mx) (hI:Inv G ι fz (hget H) w) (hx:Rel ι fz w (zAf T x) (a.eval x))
  (hlo:∀x,lo=some x->Rel ι fz w (zAf T x) (a.eval x)) (hhi:∀x,hi=some x->Rel ι fz w (zAf T x) (a.eval x)) (hmx:∀x,mx=some x->Rel ι fz w (zAf T x) (a.eval x)) :
  zAB P G o a ι fz H n w (zHR t x lo hi mx E call T H n):=by
 refine zCc hE fun e te hd hte=>?_
 obtain ⟨i,z,d,hi',hs,hb,hz,hzr,hzl,_,_,hde,hc⟩:=hte.ex;have run:∀A len cap l h m,a.eval x=.slice A len cap->(Instr.sliceBounds true len cap (lo.map a.eval) (hi.map a.eval) (mx.map a.eval)).run P w=.ok (l,h,m) w->
   (execOp a.eval o).run P w=.ok (.value (.slice (if m=l then A else A.map (·.add (l*te.size))) (h - l) (m - l))) w:=by
  intro A len cap l h m hu hb';simp only [execOp,ho,hu,Instr.sliceAt,Instr.slice,Sem.run_bind,run_underlying hd,Result.andThen_ok,hb',zAj hi',hs,Sem.run_pure]
 unfold Go.Proofs.YtngjhigieajkmaaGreatDoor.resl
 split
 ·rename_i id off len k cap ex
  rw [ex] at hx;generalize hu:a.eval x=u at hx;obtain ⟨b,s,c,rfl,hi2,hs2,hl2,hcap,hmx0⟩:=zH9 hx;cases hk:Nat.beq k te.size
  ·exact zAB.fail
  ·have hk':=Yg hk
   subst hk';dsimp only
   split
   ·rename_i c0
    obtain rfl:=hcap c0 rfl
    split
    ·rename_i l h m e1 e2 e3
     cases hbo:(Option.rec true (fun _=>Option.rec false (fun _=>true) hi) mx:Bool)
     ·exact zAB.fail
     ·cases hle:Bool.and (Bool.and (Nat.ble l h) (Nat.ble h m)) (Nat.ble m c0)
      ·exact zAB.fail
      ·simp only [Yi] at hle
       have g1:=Ym hle.1.1;have g2:=Ym hle.1.2;have g3:=Ym hle.2;have hboth:mx.isSome=true->hi.isSome=true:=by
        intro h5;cases mx with
        | none=>cases h5
        | some _=>cases hi with
         | none=>cases hbo
         | some _=>rfl
       have hbr:=zD1 (P:=P) hlo hhi hmx e1 e2 e3 g1 g2 g3 hboth;refine zAB.same hI (run _ _ _ _ _ _ hu hbr) ?_;have hmul:(m - l)*te.size+l*te.size=m*te.size:=by rw [<- Nat.add_mul,Nat.sub_add_cancel (by omega)]
       have hmul2:m*te.size<=c0*te.size:=Nat.mul_le_mul_right _ g3;rw [zeK];by_cases hml:m=l
       ·rw [if_pos hml,Yf hml]
        refine .sl id off (h - l) te.size _ b s (m - l) hi2 ?_ (by omega) (fun q hq=>by injection hq with hq;exact hq.symm) (by omega);have:(m - l)*te.size=0:=by rw [hml];simp
        omega
       ·rw [if_neg hml,Ye hml]
        simp only [Option.map_some,zBq];refine .sl id _ (h - l) te.size _ b s (m - l) hi2 ?_ (by omega) (fun q hq=>by injection hq with hq;exact hq.symm) (by omega)
        show off+l*te.size+(m - l)*te.size<=s
        omega
    ·exact zAB.fail
   ·split
    ·rename_i l h e1 e2
     cases hle:Bool.and (Bool.and (Nat.ble l h) (Nat.ble h len)) (Bool.or (Nat.beq l 0) (Nat.ble (Nat.succ l) h))
     ·exact zAB.fail
     ·simp only [Yi,Bool.or_eq_true] at hle
      have g1:=Ym hle.1.1;have g2:=Ym hle.1.2;have g3:l=0\/l<h:=hle.2.imp Yg Ym;have hbr:=zD1 (P:=P) (cap:=c) (m:=c) hlo hhi hmx e1 e2 rfl g1 (by omega) (Ya _) (by simp);refine zAB.same hI (run _ _ _ _ _ _ hu hbr) ?_;have hmul:(c - l)*te.size+l*te.size=c*te.size:=by rw [<- Nat.add_mul,Nat.sub_add_cancel (by omega)]
      have hA:(if c=l then some (⟨b,off,none⟩:Addr) else (some (⟨b,off,none⟩:Addr)).map (·.add (l*te.size)))=some ⟨b,off+l*te.size,none⟩:=by
       by_cases hcl:c=l
       ·have:l=0:=by omega
        rw [if_pos hcl,this];simp
       ·rw [if_neg hcl,Option.map_some,zBq]
      rw [hA];refine .sl id _ (h - l) te.size none b s (c - l) hi2 ?_ (by omega) (fun q hq=>by cases hq) (by omega)
      show off+l*te.size+(c - l)*te.size<=s
      omega
    ·exact zAB.fail
 ·rename_i cs len ex
  rw [ex] at hx;generalize hu:a.eval x=u at hx;obtain ⟨vs,b,p,c,rfl,hf,hcl,hcc,hr⟩:=zLG hx
  split
  ·rename_i l h e1 e2
   cases hle:Bool.and (Bool.and (Nat.ble l h) (Nat.ble h len)) (Bool.or (Nat.beq l 0) (Nat.ble (Nat.succ l) h))
   ·exact zAB.fail
   ·simp only [Yi,Bool.or_eq_true] at hle
    have g1:=Ym hle.1.1;have g2:=Ym hle.1.2;have g3:l=0\/l<h:=hle.2.imp Yg Ym;have g4:len<=c:=hcc;have hbr:=zD1 (P:=P) (cap:=c) (m:=c) hlo hhi hmx e1 e2 rfl g1 (by omega) (Ya _) (by simp);refine zAB.same hI (run _ _ _ _ _ _ hu hbr) ?_;have hA:(if c=l then some (⟨b,p,none⟩:Addr) else (some (⟨b,p,none⟩:Addr)).map (·.add (l*te.size)))=some ⟨b,p+l*te.size,none⟩:=by
     by_cases hcl:c=l
     ·have:l=0:=by omega
      rw [if_pos hcl,this];simp
     ·rw [if_neg hcl,Option.map_some,zBq]
    rw [hA,zBr];exact .fsl _ _ _ _ _ _ hf (zBY hcl _) (by show h - l<=c - l;omega) (hr.drop _)
  ·exact zAB.fail
 ·rename_i l c ex
  rw [ex] at hx;generalize hu:a.eval x=u at hx;obtain rfl:=zM3 hx
  split
  ·rename_i e1 e2
   have hbr:=zD1 (P:=P) (cap:=0) (m:=0) hlo hhi hmx e1 e2 rfl (Ya _) (Ya _) (Ya _) (by simp);refine zAB.same hI ?_ (.v _);rw [run _ _ _ _ _ _ hu hbr];simp
  ·exact zAB.fail
 ·exact zAB.fail
end
section
variable {P:Program}{G:Gl}{E:Env}{o:Oper}{a:Act}{ι:Io}{fz:Nat->Prop}{H:Hp}{n:Nat}{w:World}{T:Tm}{call:zAr}
theorem zE6 {x:AV}{l:Nat}{u:Value}(h:Go.Proofs.YtngjhigieajkmaaGreatDoor.lenOf x=some l) (hr:Rel ι fz w x u):∃A c,u=.slice A l c/\l<=c:=by
 unfold Go.Proofs.YtngjhigieajkmaaGreatDoor.lenOf at h
 split at h
 ·injection h with h;subst h
  obtain ⟨b,s,c,rfl,_,_,hl,_,_⟩:=zH9 hr;exact ⟨_,_,rfl,hl⟩
 ·injection h with h;subst h
  obtain ⟨vs,b,p,c,rfl,_,_,hl,_⟩:=zLG hr;exact ⟨_,_,rfl,hl⟩
 ·injection h with h;subst h
  obtain ⟨A,len,c,rfl,hs,_⟩:=zG9 hr;rw [zDq,hs.len];exact ⟨_,_,rfl,hs.cap⟩
 ·injection h with h;subst h
  obtain rfl:=zM3 hr;exact ⟨_,_,rfl,Ya _⟩
 ·cases h
theorem zCe {l r:List AV}{m:Nat}(h:zE1 l m=some r):r=l.take m/\r.length=m:=by
 change (Bool.rec none (some (zI9 l m)) (Nat.beq (zJK (zI9 l m)) m):Option (List AV))=some r at h
 rw [zGN,zCx] at h;cases hb:Nat.beq (l.take m).length m
 ·rw [hb] at h;cases h
 ·rw [hb] at h
  injection h with h
  subst h;exact ⟨rfl,Yg hb⟩
theorem zC1 (hI:Inv G ι fz (hget H) w) {size m:Nat}{x:AV}{cs:List AV}{u:Value}(h:zBR H size m x=some cs) (hr:Rel ι fz w x u) :
  ∃vs:List Value,zA5 ι fz w true cs vs/\vs.length=m*size/\∀w':World,w'.heap=w.heap->(Builtin.firstCells size m u).run P w' = .ok vs.toArray w':=by
 have hcell:∀ (w':World) (ad:Addr),w'.heap=w.heap->w'.cell? ad=w.cell? ad:=fun w' ad e=>by simp only [World.cell?,e]
 unfold zBR at h
 split at h
 ·rename_i id off len k cap
  obtain ⟨b,s,c,rfl,hi,_,_,_,_⟩:=zH9 hr
  split at h
  ·rename_i cs0 e
   obtain ⟨b',s',hi',hn,vs,rest,ty,h1,h2,h3⟩:=hI.blk id _ e;rw [hi] at hi';injection hi' with hi'
   injection hi' with e1 e2
   subst e1 e2;rw [zBr] at h;obtain ⟨rfl,hl⟩:=zCe h;have hr2:=(h2.drop off).take (Nat.mul m size);have hl2:((vs.drop off).take (Nat.mul m size)).length=m*size:=by rw [<- hr2.len];exact hl
   refine ⟨_,hr2,hl2,fun w' hw=>run_firstCells_some w' size m _ _ _ _ hl2 fun j v hv=>?_⟩;rw [hcell _ _ hw,zBq];have hj:j<m*size:=by rw [<- hl2];exact (Yb.1 hv).1
   have hv2:(vs.drop off)[j]? = some v:=by
    rw [Xf (show j<Nat.mul m size from hj)] at hv;exact hv
   have:=zBY (zEZ h1) off j v hv2
   rwa [Nat.zero_add] at this
  ·cases h
 ·rename_i cs0 len
  obtain ⟨vs,b,p,c,rfl,hf,hc,hl,hrel⟩:=zLG hr;obtain ⟨rfl,hl⟩:=zCe h;have hr2:=hrel.take (Nat.mul m size);have hl2:(vs.take (Nat.mul m size)).length=m*size:=by rw [<- hr2.len];exact hl
  refine ⟨_,hr2,hl2,fun w' hw=>run_firstCells_some w' size m _ _ _ _ hl2 fun j v hv=>?_⟩;rw [hcell _ _ hw,zBq];have hj:j<m*size:=by rw [<- hl2];exact (Yb.1 hv).1
  exact hc j v (by rwa [Xf (show j<Nat.mul m size from hj)] at hv)
 ·rename_i v
  obtain ⟨A,len,c,rfl,hs,hf⟩:=zG9 hr;cases hb:Nat.beq size 1
  ·rw [hb] at h;cases h
  ·rw [hb] at h
   have hsz:=Yg hb;subst hsz;obtain ⟨rfl,hl⟩:=zCe h;rw [zFU] at hl ⊢;refine ⟨(((zAa v).take 1000).map u32).take m,(zJD _).take m,by simpa using hl,fun w' hw=>?_⟩;rcases Xm m with h0 | hp
   ·subst h0
    cases A with
    | none=>simp [Builtin.firstCells]
    | some ad=>simp [Builtin.firstCells,loadCells,loadCellsFrom]
   ·have hlen:m<=len:=by
     rw [<- hs.len];have:((List.map zVp (List.take 1000 (zAa v))).take m).length<=(zAa v).length:=by
      simp only [Yr,Xe];omega
     rw [hl] at this;exact this
    obtain ⟨b,off,e,hb',hcc⟩:=hs.at_ (by omega);subst e;refine run_firstCells_some w' 1 m _ _ _ _ (by simpa using hl) fun j u hu=>?_
    rw [hcell _ _ hw,zBq];have hj:j<m:=by
     have:=(Yb.1 hu).1;simp only [Yr,Xe] at this;omega
    rw [Xf hj,List.getElem?_map] at hu;have hj2:j<1000:=by
     rcases Xj j 1000 with h' | h'
     ·exact h'
     ·rw [List.getElem?_take_eq_none h'] at hu;cases hu
    rw [Xf hj2] at hu;cases hd:(zAa v)[j]? with
    | none=>rw [hd] at hu;cases hu
    | some d=>
     rw [hd] at hu;injection hu with hu
     subst hu;exact hcc j d hd
 ·cases hb:Nat.beq m 0
  ·rw [hb] at h;cases h
  ·rw [hb] at h
   injection h with h
   subst h;obtain rfl:=zM3 hr;have:=Yg hb;subst this;exact ⟨[],.nil _,by simp,fun w' _=>by simp [Builtin.firstCells]⟩
 ·cases h
theorem zeR {c:Call}(hE:zBV P E) (ho:o.op=.call c) (hcb:c.callee=.builtin .len) (hI:Inv G ι fz (hget H) w) (hx:∀x∈c.args.toList,Rel ι fz w (zAf T x) (a.eval x)) :
  zAB P G o a ι fz H n w (zR8 E c.argTypes.toList (zE7 (zAf T) c.args.toList) H n):=by
 rw [zCN];unfold zR8
 split
 ·rename_i x t e1 e2
  obtain ⟨ox,hox,rfl⟩:∃ox,c.args.toList=[ox]/\zAf T ox=x:=by
   cases hl:c.args.toList with
   | nil=>rw [hl] at e1;cases e1
   | cons ox r=>cases r with
    | nil=>rw [hl] at e1;injection e1 with e1;exact ⟨ox,rfl,e1⟩
    | cons=>rw [hl] at e1;cases e1
  have hx1:=hx ox (by rw [hox];exact List.mem_cons_self);have hargs:c.args=#[ox]:=by rw [<- Array.toArray_toList (xs:=c.args),hox]
  have htypes:c.argTypes=#[t]:=by rw [<- Array.toArray_toList (xs:=c.argTypes),e2]
  have hrun:∀y,(Builtin.len_ #[t] o.type #[a.eval ox]).run P w=.ok y w->(execOp a.eval o).run P w=.ok (.value y) w:=by
   intro y hy;simp only [execOp,ho,resolve,hcb,Sem.run_bind,Sem.run_pure,Result.andThen_ok,invoke,builtin,htypes,hargs,List.map_toArray,List.map_cons,List.map_nil,hy]
  refine zAd hE fun ti hti=>?_
  obtain ⟨i,z,d,_,_,_,_,_,_,_,_,hd,hc⟩:=hti.ex
  split
  ·rename_i e hce
   rw [hce] at hc;simp only [zGS] at hc;subst hc;refine zAB.okv hI fun y hy=>?_
   obtain ⟨l,hl,hy⟩:=zAW hy;injection hy with hy
   subst hy;obtain ⟨A,cc,hu,_⟩:=zE6 hl hx1;refine ⟨.int .i64 (l:Int),hrun _ ?_,.i _ _⟩;simp [Builtin.len_,run_underlying hd,hu,goInt]
  ·rename_i s hce ex
   rw [hce] at hc;simp only [zGS] at hc;subst hc;rw [ex] at hx1;have hu:=zM3 hx1;refine zAB.same hI (u:=.int .i64 (s.size:Int)) (hrun _ ?_) ?_
   ·simp [Builtin.len_,run_underlying hd,hu,goInt]
   ·rw [zCx,Array.length_toList]
    exact .i _ _
  ·exact zAB.fail
 ·exact zAB.fail
theorem zeQ {c:Call}(hE:zBV P E) (ho:o.op=.call c) (hcb:c.callee=.builtin .cap) (hI:Inv G ι fz (hget H) w) (hx:∀x∈c.args.toList,Rel ι fz w (zAf T x) (a.eval x)) :
  zAB P G o a ι fz H n w (zR7 E c.argTypes.toList (zE7 (zAf T) c.args.toList) H n):=by
 rw [zCN];unfold zR7
 split
 ·rename_i x t e1 e2
  obtain ⟨ox,hox,rfl⟩:∃ox,c.args.toList=[ox]/\zAf T ox=x:=by
   cases hl:c.args.toList with
   | nil=>rw [hl] at e1;cases e1
   | cons ox r=>cases r with
    | nil=>rw [hl] at e1;injection e1 with e1;exact ⟨ox,rfl,e1⟩
    | cons=>rw [hl] at e1;cases e1
  have hx1:=hx ox (by rw [hox];exact List.mem_cons_self);have hargs:c.args=#[ox]:=by rw [<- Array.toArray_toList (xs:=c.args),hox]
  have htypes:c.argTypes=#[t]:=by rw [<- Array.toArray_toList (xs:=c.argTypes),e2]
  have hrun:∀y,(Builtin.cap_ #[t] o.type #[a.eval ox]).run P w=.ok y w->(execOp a.eval o).run P w=.ok (.value y) w:=by
   intro y hy;simp only [execOp,ho,resolve,hcb,Sem.run_bind,Sem.run_pure,Result.andThen_ok,invoke,builtin,htypes,hargs,List.map_toArray,List.map_cons,List.map_nil,hy]
  refine zAd hE fun ti hti=>?_
  obtain ⟨i,z,d,_,_,_,_,_,_,_,_,hd,hc⟩:=hti.ex
  split
  ·rename_i e id off len k cc hce ex
   rw [hce] at hc;simp only [zGS] at hc;subst hc;rw [ex] at hx1;obtain ⟨b,s,c',hu,_,_,_,hcap,_⟩:=zH9 hx1;obtain rfl:=hcap _ rfl;refine zAB.same hI (u:=.int .i64 (cc:Int)) (hrun _ ?_) (.i _ _);simp [Builtin.cap_,run_underlying hd,hu,goInt]
  ·rename_i e l cc hce ex
   rw [hce] at hc;simp only [zGS] at hc;subst hc;rw [ex] at hx1;have hu:=zM3 hx1;refine zAB.same hI (u:=.int .i64 (cc:Int)) (hrun _ ?_) (.i _ _);simp [Builtin.cap_,run_underlying hd,hu,goInt]
  ·exact zAB.fail
 ·exact zAB.fail
theorem zVc {c:Call}(mx:Bool) (ho:o.op=.call c) (hcb:c.callee=.builtin (if mx then .max else .min)) (hI:Inv G ι fz (hget H) w) (hx:∀x∈c.args.toList,Rel ι fz w (zAf T x) (a.eval x)) :
  zAB P G o a ι fz H n w (zNN mx (zE7 (zAf T) c.args.toList) H n):=by
 rw [zCN];unfold zNN
 split
 ·rename_i k p k' q e1
  obtain ⟨ox,oy,hox,h1,h2⟩:∃ox oy,c.args.toList=[ox,oy]/\zAf T ox=.i k p/\zAf T oy=.i k' q:=by
   cases hl:c.args.toList with
   | nil=>rw [hl] at e1;cases e1
   | cons ox r=>cases r with
    | nil=>rw [hl] at e1;simp at e1
    | cons oy r=>cases r with
     | nil=>rw [hl] at e1;simp only [List.map_cons,List.map_nil,List.cons.injEq,and_true] at e1;exact ⟨ox,oy,rfl,e1.1,e1.2⟩
     | cons=>rw [hl] at e1;simp at e1
  have hx1:=hx ox (by rw [hox];simp);have hx2:=hx oy (by rw [hox];simp);rw [h1] at hx1;rw [h2] at hx2;have u1:=zVQ hx1;have u2:=zVQ hx2;have hargs:c.args=#[ox,oy]:=by rw [<- Array.toArray_toList (xs:=c.args),hox]
  cases mx
  ·refine zAB.same hI (u:=.int k (if q<p then q else p)) ?_ ?_
   ·simp only [Bool.false_eq_true,if_false] at hcb
    simp [execOp,ho,resolve,hcb,invoke,builtin,hargs,u1,u2,Builtin.min_,Builtin.min2]
   ·rw [zB3]
    by_cases hqp:q<p
    ·rw [if_pos hqp,Yf hqp];exact .i _ _
    ·rw [if_neg hqp,Ye hqp];exact .i _ _
  ·refine zAB.same hI (u:=.int k (if q > p then q else p)) ?_ ?_
   ·simp only [if_true] at hcb
    simp [execOp,ho,resolve,hcb,invoke,builtin,hargs,u1,u2,Builtin.max_,Builtin.max2]
   ·simp only [zB3]
    by_cases hqp:p<q
    ·rw [if_pos hqp,Yf hqp];exact .i _ _
    ·rw [if_neg hqp,Ye hqp];exact .i _ _
 ·exact zAB.fail
end
end Go.Proofs.YtngjhigieajkmaaGreatDoor
end
