/- Bundle 13: what the law's walk stands on: S20, S22. -/
import Derived.Test.YtchkfjgcbbbffaaGreatDoorX12
set_option maxRecDepth 100000
set_option maxHeartbeats 20000000
set_option linter.all false
noncomputable section
namespace Go.Proofs.YtchkfjgcbbbffaaGreatDoor
open Go.RowKit Pl Go.Shelf
structure zmc {α:Type}(e:TypeId) (k:Nat) (R:World->List Value->α->Prop) (lo base:Nat) (w:World) (v:Value) (fs:List (List Value)) (xs:List α):Prop where
 le:lo<=base
 own:zKf e k w base v fs
 len:xs.length=fs.length
 each:∀ (j:Nat) (f:List Value) (x:α),fs[j]? = some f->xs[j]? = some x->On lo (fun b=>b<lo) w (fun W=>R W f x)
def Dj (v u:Value):Prop:=∀o,v.ownBlock=some o->u.ownBlock≠some o
theorem Dj.symm {v u:Value}(h:Dj v u):Dj u v:=fun o h1 h2=>h o h2 h1
theorem Dj.nil {u:Value}:Dj (.slice none 0 0) u:=fun o h=>by cases h
theorem Dj.nil' {u:Value}:Dj u (.slice none 0 0):=fun o _ h=>by cases h
section
variable {α:Type}{e:TypeId}{k:Nat}{R:World->List Value->α->Prop}{lo base:Nat}{w w':World}{v:Value}{fs:List (List Value)}{xs:List α}
theorem zmc.nil (e:TypeId) (k:Nat) (R:World->List Value->α->Prop) {lo base:Nat}(hl:lo<=base) (w:World):zmc e k R lo base w (.slice none 0 0) [] []:=⟨hl,zKf.nil _ _ _ _,rfl,fun j f x h=>by simp at h⟩
theorem zmc.keep (h:zmc e k R lo base w v fs xs) (hb:∀b,b<lo->w'.heap[b]? = w.heap[b]?) (ho:∀o,base<=o->o<w.heap.size->v.ownBlock=some o->w'.heap[o]? = w.heap[o]?):zmc e k R lo base w' v fs xs:=by
 refine ⟨h.le,⟨⟨h.own.own.1,?_⟩,h.own.len⟩,h.len,fun j f x hf hx=>(h.each j f x hf hx).move (fun b hb'=>hb b hb')⟩;rcases h.own.own.2 with hn | ⟨g,cap,cur,hv,hbg,hg,rest⟩
 ·exact .inl hn
 ·exact .inr ⟨g,cap,cur,hv,hbg,(ho g hbg (Yv.1 hg).1 (by rw [hv];rfl)).trans hg,rest⟩
theorem zmc.below (h:zmc e k R lo base w v fs xs) (hs:lo<=w.heap.size) (hb:Below w.heap.size w w'):zmc e k R lo base w' v fs xs:=h.keep (fun b hb'=>hb.block b (by omega)) (fun o _ ho _=>hb.block o ho)
theorem zmc.lt (h:zmc e k R lo base w v fs xs):∀g,v.ownBlock=some g->base<=g/\g<w.heap.size:=h.own.lt
theorem zmc.other (h:zmc e k R lo base w v fs xs) (hs:lo<=w.heap.size) {u:Value}(hg:w.grownBy w' u.ownBlock) (hu:∀g,u.ownBlock=some g->base<=g) (hd:Dj u v):zmc e k R lo base w' v fs xs:=
 have hle:=h.le
 h.keep (fun b hb=>hg.block b (by omega) (fun e=>by have:=hu b e.symm;omega)) (fun o _ ho hv=>hg.block o ho (fun e=>hd o e.symm hv))
theorem zmc.next (hacc:zmc e k R lo base w v fs xs) {v':Value}{f:List Value}{y:α}(hs:lo<=w.heap.size)
  (h2:w'.ownsRow base e k v' (fs.length+1) (fs.flatten++f)) (h3:w.grownBy w' v.ownBlock) (hn:f.length=k)
  (hR:On lo (fun b=>b<lo) w (fun W=>R W f y)):zmc e k R lo base w' v' (fs++[f]) (xs++[y]):=by
 have hle:=hacc.le;have hbl:∀b,b<lo->w'.heap[b]? = w.heap[b]?:=fun b hb=>h3.block b (by omega) (fun e=>by have:=(hacc.lt b e.symm).1;omega)
 refine ⟨hle,⟨?_,?_⟩,?_,?_⟩
 ·rw [Yu,List.flatten_append];simpa using h2
 ·intro f' hf
  rcases Yt.1 hf with hf | hf
  ·exact hacc.own.len f' hf
  ·rw [List.mem_singleton.1 hf];exact hn
 ·rw [Yu,Yu,hacc.len];rfl
 ·intro j f' x' hf hx'
  by_cases hj:j<fs.length
  ·rw [Yw hj] at hf
   rw [Yw (by rw [hacc.len];exact hj)] at hx';exact (hacc.each j f' x' hf hx').move hbl
  ·have hj':j<(fs++[f]).length:=(Yb.1 hf).1
   have hj2:j=fs.length:=by simp at hj';omega
   subst hj2;rw [Yx (Ya _),Nat.sub_self] at hf;rw [Yx (by rw [hacc.len];exact Ya _),hacc.len,Nat.sub_self] at hx';simp at hf hx';subst hf hx';exact hR.move hbl
theorem zmc.sl (h:zmc e k R lo base w v fs xs) (hs:lo<=w.heap.size):∃A c,v=.slice A xs.length c/\Sl k R w A xs.length c xs:=by
 obtain ⟨A,c,hv,hsl⟩:=h.own.sl (R:=R) (xs:=xs) h.len (fun j f x hf hx=>(h.each j f x hf hx).here hs);rw [<- h.len] at hv hsl;exact ⟨A,c,hv,hsl⟩
theorem zmc.one {f:List Value}{y:α}{g:Nat}(hl:lo<=base) (hg:base<=g) (hb:Blk w g e f.toArray) (hn:f.length=k) (hR:On lo (fun b=>b<lo) w (fun W=>R W f y)):zmc e k R lo base w (.slice (some ⟨g,0,none⟩) 1 1) [f] [y]:=by
 refine ⟨hl,⟨⟨by simp [hn],.inr ⟨g,1,f.toArray,rfl,hg,hb,Ya _,by simp [maxLen],by simp [hn],by simp [<- hn]⟩⟩,by simpa using hn⟩,rfl,fun j f' x hf hx=>?_⟩;have hj:j=0:=by have:=(Yb.1 hf).1;simp at this;exact this
 subst hj;simp at hf hx;subst hf hx;exact hR
end
theorem zmX {v v' u:Value}{n:Nat}(h:Dj v u) (h5:v'.ownBlock=v.ownBlock\/v'.ownBlock=some n) (hu:∀g,u.ownBlock=some g->g<n):Dj v' u:=by
 intro o h1 h2;rcases h5 with h5 | h5
 ·exact h o (by rw [<- h5];exact h1) h2
 ·rw [h5] at h1
  injection h1 with h1
  have:=hu o h2;omega
theorem Blk.cells4 {w:World}{g:Nat}{t:TypeId}{a b c d:Value}(h:Blk w g t #[a,b,c,d]):w.cell? ⟨g,0,none⟩=some a/\w.cell? ⟨g,1,none⟩=some b/\w.cell? ⟨g,2,none⟩=some c/\w.cell? ⟨g,3,none⟩=some d:=⟨h.cell 0,h.cell 1,h.cell 2,h.cell 3⟩
structure Tk where
 frames:List Fr
 v:List (List (List Dy))
 tubes:List (List Iv)
 steps:List Dy
def RV1 (w:World) (vs:List Value) (m:List (List Dy)):Prop:=∃A n c,vs=[.slice A n c]/\Sl 1 RM w A n c m
def RB1 (w:World) (vs:List Value) (b:List Iv):Prop:=∃A n c,vs=[.slice A n c]/\Sl 7 RI w A n c b
def RT (w:World) (vs:List Value) (t:Tk):Prop:=∃A n c B m d C p q S s z,vs=[.slice A n c,.slice B m d,.slice C p q,.slice S s z]/\Sl 3 RF w A n c t.frames/\Sl 1 RV1 w B m d t.v/\Sl 1 RB1 w C p q t.tubes/\Sl 3 RD w S s z t.steps
theorem zmt:zJM RV1:=fun w W vs x ⟨A,n,c,e,h⟩ hb=>⟨A,n,c,e,h.next zAh hb⟩
theorem zml:zJM RB1:=fun w W vs x ⟨A,n,c,e,h⟩ hb=>⟨A,n,c,e,h.next zAX hb⟩
theorem zmd:zJM RT:=fun w W vs x ⟨A,n,c,B,m,d,C,p,q,S,s,z,e,h1,h2,h3,h4⟩ hb=>⟨A,n,c,B,m,d,C,p,q,S,s,z,e,h1.next zBs hb,h2.next zmt hb,h3.next zml hb,h4.next zAQ hb⟩
def trP (x:Ct):Tk:=⟨x.start::x.links.map Lk.e,x.links.map Lk.v,x.links.map Lk.tube,x.links.map Lk.h⟩
structure TkA (lo base:Nat) (w:World) (vF vV vT vS:Value) (fF fV fT fS:List (List Value)) (tr:Tk):Prop where
 f:zmc 26 3 RF lo base w vF fF tr.frames
 v:zmc 23 1 RV1 lo base w vV fV tr.v
 t:zmc 24 1 RB1 lo base w vT fT tr.tubes
 s:zmc 41 3 RD lo base w vS fS tr.steps
 fv:Dj vF vV
 ft:Dj vF vT
 fs:Dj vF vS
 vt:Dj vV vT
 vs:Dj vV vS
 ts:Dj vT vS
section
variable {lo base:Nat}{w w':World}{vF vV vT vS v':Value}{fF fV fT fS:List (List Value)}{f:List Value}{t:Tk}
theorem TkA.below (h:TkA lo base w vF vV vT vS fF fV fT fS t) (hs:lo<=w.heap.size) (hb:Below w.heap.size w w'):TkA lo base w' vF vV vT vS fF fV fT fS t:=
 ⟨h.f.below hs hb,h.v.below hs hb,h.t.below hs hb,h.s.below hs hb,h.fv,h.ft,h.fs,h.vt,h.vs,h.ts⟩
theorem TkA.keep (h:TkA lo base w vF vV vT vS fF fV fT fS t) (hs:lo<=w.heap.size) {g:Nat}(hb:∀b,b<w.heap.size->b≠g->w'.heap[b]? = w.heap[b]?) (hg:lo<=g) (h1:vF.ownBlock≠some g) (h2:vV.ownBlock≠some g) (h3:vT.ownBlock≠some g) (h4:vS.ownBlock≠some g):TkA lo base w' vF vV vT vS fF fV fT fS t:=
 ⟨h.f.keep (fun b hb'=>hb b (by omega) (by omega)) (fun o _ ho e=>hb o ho (fun e2=>h1 (e2 ▸ e))),
  h.v.keep (fun b hb'=>hb b (by omega) (by omega)) (fun o _ ho e=>hb o ho (fun e2=>h2 (e2 ▸ e))),
  h.t.keep (fun b hb'=>hb b (by omega) (by omega)) (fun o _ ho e=>hb o ho (fun e2=>h3 (e2 ▸ e))),
  h.s.keep (fun b hb'=>hb b (by omega) (by omega)) (fun o _ ho e=>hb o ho (fun e2=>h4 (e2 ▸ e))),h.fv,h.ft,h.fs,h.vt,h.vs,h.ts⟩
theorem TkA.addF (h:TkA lo base w vF vV vT vS fF fV fT fS t) (hs:lo<=w.heap.size) {y:Fr}(h2:w'.ownsRow base 26 3 v' (fF.length+1) (fF.flatten++f)) (h3:w.grownBy w' vF.ownBlock) (h5:v'.ownBlock=vF.ownBlock\/v'.ownBlock=some w.heap.size) (hn:f.length=3)
  (hR:On lo (fun b=>b<lo) w (fun W=>RF W f y)):TkA lo base w' v' vV vT vS (fF++[f]) fV fT fS { t with frames:=t.frames++[y] }:=
 have hu:∀g,vF.ownBlock=some g->base<=g:=fun g e=>(h.f.lt g e).1
 ⟨h.f.next hs h2 h3 hn hR,h.v.other hs h3 hu h.fv,h.t.other hs h3 hu h.ft,h.s.other hs h3 hu h.fs,
  zmX h.fv h5 (fun g e=>(h.v.lt g e).2),zmX h.ft h5 (fun g e=>(h.t.lt g e).2),zmX h.fs h5 (fun g e=>(h.s.lt g e).2),h.vt,h.vs,h.ts⟩
theorem TkA.addV (h:TkA lo base w vF vV vT vS fF fV fT fS t) (hs:lo<=w.heap.size) {y:List (List Dy)}(h2:w'.ownsRow base 23 1 v' (fV.length+1) (fV.flatten++f)) (h3:w.grownBy w' vV.ownBlock) (h5:v'.ownBlock=vV.ownBlock\/v'.ownBlock=some w.heap.size) (hn:f.length=1)
  (hR:On lo (fun b=>b<lo) w (fun W=>RV1 W f y)):TkA lo base w' vF v' vT vS fF (fV++[f]) fT fS { t with v:=t.v++[y] }:=
 have hu:∀g,vV.ownBlock=some g->base<=g:=fun g e=>(h.v.lt g e).1
 ⟨h.f.other hs h3 hu h.fv.symm,h.v.next hs h2 h3 hn hR,h.t.other hs h3 hu h.vt,h.s.other hs h3 hu h.vs,
  (zmX h.fv.symm h5 (fun g e=>(h.f.lt g e).2)).symm,h.ft,h.fs,zmX h.vt h5 (fun g e=>(h.t.lt g e).2),zmX h.vs h5 (fun g e=>(h.s.lt g e).2),h.ts⟩
theorem TkA.addT (h:TkA lo base w vF vV vT vS fF fV fT fS t) (hs:lo<=w.heap.size) {y:List Iv}(h2:w'.ownsRow base 24 1 v' (fT.length+1) (fT.flatten++f)) (h3:w.grownBy w' vT.ownBlock) (h5:v'.ownBlock=vT.ownBlock\/v'.ownBlock=some w.heap.size) (hn:f.length=1)
  (hR:On lo (fun b=>b<lo) w (fun W=>RB1 W f y)):TkA lo base w' vF vV v' vS fF fV (fT++[f]) fS { t with tubes:=t.tubes++[y] }:=
 have hu:∀g,vT.ownBlock=some g->base<=g:=fun g e=>(h.t.lt g e).1
 ⟨h.f.other hs h3 hu h.ft.symm,h.v.other hs h3 hu h.vt.symm,h.t.next hs h2 h3 hn hR,h.s.other hs h3 hu h.ts,
  h.fv,(zmX h.ft.symm h5 (fun g e=>(h.f.lt g e).2)).symm,h.fs,(zmX h.vt.symm h5 (fun g e=>(h.v.lt g e).2)).symm,h.vs,zmX h.ts h5 (fun g e=>(h.s.lt g e).2)⟩
theorem TkA.addS (h:TkA lo base w vF vV vT vS fF fV fT fS t) (hs:lo<=w.heap.size) {y:Dy}(h2:w'.ownsRow base 41 3 v' (fS.length+1) (fS.flatten++f)) (h3:w.grownBy w' vS.ownBlock) (h5:v'.ownBlock=vS.ownBlock\/v'.ownBlock=some w.heap.size) (hn:f.length=3)
  (hR:On lo (fun b=>b<lo) w (fun W=>RD W f y)):TkA lo base w' vF vV vT v' fF fV fT (fS++[f]) { t with steps:=t.steps++[y] }:=
 have hu:∀g,vS.ownBlock=some g->base<=g:=fun g e=>(h.s.lt g e).1
 ⟨h.f.other hs h3 hu h.fs.symm,h.v.other hs h3 hu h.vs.symm,h.t.other hs h3 hu h.ts.symm,h.s.next hs h2 h3 hn hR,
  h.fv,h.ft,(zmX h.fs.symm h5 (fun g e=>(h.f.lt g e).2)).symm,h.vt,(zmX h.vs.symm h5 (fun g e=>(h.v.lt g e).2)).symm,(zmX h.ts.symm h5 (fun g e=>(h.t.lt g e).2)).symm⟩
theorem TkA.rt (h:TkA lo base w vF vV vT vS fF fV fT fS t) (hs:lo<=w.heap.size):RT w [vF,vV,vT,vS] t:=by
 obtain ⟨A,c,rfl,k1⟩:=h.f.sl hs;obtain ⟨B,d,rfl,k2⟩:=h.v.sl hs;obtain ⟨C,q,rfl,k3⟩:=h.t.sl hs;obtain ⟨S,z,rfl,k4⟩:=h.s.sl hs;exact ⟨A,_,c,B,_,d,C,_,q,S,_,z,rfl,k1,k2,k3,k4⟩
end
section
variable {P:Program}{ops:Array Oper}{Q:Exit->Act->World->Prop}{md:Region.Mode}{S:World->Prop}{N:Nat->Bool}
def zmZ (P:Program) (md:Region.Mode) (ops:Array Oper) (Q:Exit->Act->World->Prop) (S:World->Prop) (N:Nat->Bool):Nat->Array Bool->Act->World->Prop
 | 0,listed,a,w=>Region.ready md ops listed=[]/\Q .normal a w
 | f+1,listed,a,w=>(Region.ready md ops listed=[]->Q .normal a w)/\∀i∈Region.ready md ops listed,wpOp P ops Q i (fun a' w'=>(N i=false->S w')/\zmZ P md ops Q S N f (listed.setIfInBounds i true) a' w') a w
theorem zmk:∀ (f:Nat) (listed:Array Bool) (a:Act) (w:World),zmZ P md ops Q S N f listed a w->wpAny P md ops Q f listed a w
 | 0,_,_,_,h=>h
 | f+1,_,_,_,h=>⟨h.1,fun i hi=>wpOp_mono (fun a' w' h'=>zmk f _ a' w' h'.2) (h.2 i hi)⟩
def zmb (md:Region.Mode) (ops:Array Oper) (j i:Nat):Bool:=(ops[j]?.map fun o=>o.after.any fun e=>Region.binds md e && e.on == i).getD false
theorem zma {j i:Nat}(h:zmb md ops j i=true):∃o,ops[j]? = some o/\∃e∈o.after,Region.binds md e=true/\e.on=i:=by
 unfold zmb at h;cases ho:ops[j]? with
 | none=>rw [ho] at h;cases h
 | some o=>
  rw [ho] at h;obtain ⟨e,he,hb⟩:=Array.any_eq_true'.1 (show (o.after.any fun e=>Region.binds md e && e.on == i)=true from h);simp only [Yi,beq_iff_eq] at hb;exact ⟨o,rfl,e,he,hb.1,hb.2⟩
def Clo (md:Region.Mode) (ops:Array Oper) (listed:Array Bool):Prop:=∀j i,listed.getD j false=true->zmb md ops j i=true->listed.getD i false=true
def zm7 (md:Region.Mode) (ops:Array Oper) (listed:Array Bool):Bool:=(List.range listed.size).all fun j=>!listed.getD j false || match ops[j]? with
 | some o=>o.after.all fun e=>!Region.binds md e || listed.getD e.on false
 | none=>true
theorem zms {listed:Array Bool}(h:zm7 md ops listed=true):Clo md ops listed:=by
 intro j i hj hw;obtain ⟨o,ho,e,he,hb,rfl⟩:=zma hw;have hlt:j<listed.size:=by
  rcases Xj j listed.size with h1 | h1
  ·exact h1
  ·rw [Array.getD_eq_getD_getElem?,Array.getElem?_eq_none h1] at hj;cases hj
 have h1:=List.all_eq_true.1 h j (List.mem_range.2 hlt);rw [hj,ho] at h1;have h2:(o.after.all fun e=>!Region.binds md e || listed.getD e.on false)=true:=h1;have h3:=Array.all_eq_true_iff_forall_mem.1 h2 e he;rw [hb] at h3;exact h3
theorem Clo.set {listed:Array Bool}{k:Nat}(h:Clo md ops listed) (hk:k∈Region.ready md ops listed):Clo md ops (listed.setIfInBounds k true):=by
 intro j i hj hw;by_cases e:k=j
 ·subst e
  obtain ⟨o,ho,e,he,hb,rfl⟩:=zma hw;obtain ⟨_,o',ho',hall⟩:=mem_ready.1 hk;rw [ho] at ho';injection ho' with ho'
  subst ho';exact getD_set_true (hall e he hb)
 ·rw [getD_set_ne false e] at hj
  exact getD_set_true (h j i hj hw)
def zmn (md:Region.Mode) (ops:Array Oper) (i:Nat):Nat->List Nat->Bool
 | j,[]=>zmb md ops j i
 | j,k::p=>zmb md ops j k && zmn md ops i k p
theorem zmg {listed:Array Bool}{i:Nat}(hc:Clo md ops listed):∀ (p:List Nat) (j:Nat),listed.getD j false=true->zmn md ops i j p=true->listed.getD i false=true
 | [],j,hj,h=>hc j i hj h
 | k::p,j,hj,h=>by
  rw [zmn,Yi] at h;exact zmg hc p k (hc j k hj h.1) h.2
theorem zmh {listed:Array Bool}{i:Nat}(hc:Clo md ops listed) {j:Nat}(hj:j∈Region.ready md ops listed) (p:List Nat) (h:zmn md ops i j p=true):listed.getD i false=true:=by
 have key:∀k,zmb md ops j k=true->listed.getD k false=true:=by
  intro k hk;obtain ⟨o,ho,e,he,hb,rfl⟩:=zma hk;obtain ⟨_,o',ho',hall⟩:=mem_ready.1 hj;rw [ho] at ho';injection ho' with ho'
  subst ho';exact hall e he hb
 cases p with
 | nil=>exact key i h
 | cons k p=>
  rw [zmn,Yi] at h;exact zmg hc p k (key k h.1) h.2
theorem zmm {i:Nat}{oi:Oper}{v:Value}(hi:ops[i]? = some oi) (hsel:∀ (j:Nat) (o:Oper) cs b,ops[j]? = some o->o.op ≠ .select cs b)
  (hQ:∀c a w,Q (.panic c) (a.put oi.dst v) w->Q (.panic c) a w) (hN:∀ (listed:Array Bool) (j:Nat),Clo md ops listed->j∈Region.ready md ops listed->N j=true->listed.getD i false=true) :
  ∀ (f:Nat) (listed:Array Bool) (a:Act) (w:World),Clo md ops listed->
   (∀j oj,ops[j]? = some oj->j≠i->listed.getD j true=false->(∀e∈oj.after,Region.binds md e=true->e.on≠i)->oi.apart ops oj=true)->
   i∈Region.ready md ops listed->YieldsIf P ops S oi v a->S w->
   zmZ P md ops Q S N f (listed.setIfInBounds i true) (a.put oi.dst v) w->zmZ P md ops Q S N (f+1) listed a w:=by
 intro f
 induction f with
 | zero=>
  intro listed a w _ _ hr hy hS H;refine ⟨fun h=>(by rw [h] at hr;cases hr),fun j hj=>?_⟩;by_cases hji:j=i
  ·subst hji;exact hy.wpOp hi hS ⟨fun _=>hS,H⟩
  ·have:=ready_mono hj hji
   rw [H.1] at this;cases this
 | succ f ih=>
  intro listed a w hc hfree hr hy hS H;have hun:listed.getD i false=false:=by
   have h0:=(mem_ready.1 hr).1;rcases Xj i listed.size with h' | h'
   ·simp [h'] at h0 ⊢;exact h0
   ·simp [Array.getElem?_eq_none h'] at h0
  refine ⟨fun h=>(by rw [h] at hr;cases hr),fun j hj=>?_⟩;by_cases hji:j=i
  ·subst hji;exact hy.wpOp hi hS ⟨fun _=>hS,H⟩
  ·have h1:=H.2 j (ready_mono hj hji)
   obtain ⟨hjun,oj,hoj,hall⟩:=mem_ready.1 hj;have hNj:N j=false:=by
    cases hn:N j with
    | false=>rfl
    | true=>have:=hN listed j hc hj hn;rw [hun] at this;cases this
   have hnot:∀e∈oj.after,Region.binds md e=true->e.on≠i:=fun e he hb heq=>by
    have h2:=hall e he hb;rw [heq,hun] at h2;cases h2
   have h2:=wpOp_putIf hoj (hfree j oj hoj hji hjun hnot) (fun cs b=>hsel i oi cs b hi) (fun cs b=>hsel j oj cs b hoj) hQ hy h1;have hfree':∀k ok,ops[k]? = some ok->k≠i->(listed.setIfInBounds j true).getD k true=false->
     (∀e∈ok.after,Region.binds md e=true->e.on≠i)->oi.apart ops ok=true:=fun k ok hk hki hk2 hno=>by
    refine hfree k ok hk hki ?_ hno;by_cases hjk:j=k
    ·subst hjk;exact hjun
    ·rw [getD_set_ne true hjk] at hk2;exact hk2
   refine wpOp_mono (fun a' w' h3=>⟨fun _=>h3.2.1 hNj,ih (listed.setIfInBounds j true) a' w' (hc.set hj) hfree' (ready_mono hr (Ne.symm hji)) h3.1 (h3.2.1 hNj) ?_⟩) h2;rw [Array.setIfInBounds_comm _ _ hji];exact h3.2.2
theorem zmU {f i n0:Nat}{ns p:List Nat}{oi:Oper}{v:Value}{listed:Array Bool}{a:Act}{w:World}(hi:ops[i]? = some oi)
  (hs:Region.noSelect ops=true) (hf:Region.free md ops listed i=true) (hr:(Region.ready md ops listed).contains i=true) (hcl:zm7 md ops listed=true)
  (hp:(zmn md ops i n0 p && ns.all fun n=>zmb md ops n n0)=true)
  (hQ:∀c a w,Q (.panic c) (a.put oi.dst v) w->Q (.panic c) a w) (hy:Region.wanted oi (yielded ops a.tmps)=true/\∀w,S w->(execOp a.eval oi).run P w=.ok (.value v) w) (hS:S w)
  (h:zmZ P md ops Q S (fun j=>(n0::ns).contains j) f (listed.setIfInBounds i true) (a.put oi.dst v) w):zmZ P md ops Q S (fun j=>(n0::ns).contains j) (f+1) listed a w:=by
 rw [Yi] at hp;refine zmm hi (Region.noSelect_spec hs) hQ (fun l j hc hj hn=>?_) f listed a w (zms hcl) (Region.free_spec hi hf) (by simpa using hr) (.inl hy) hS h;have hn':j∈n0::ns:=by simpa using hn
 rcases List.mem_cons.1 hn' with rfl | hm
 ·exact zmh hc hj p hp.1
 ·exact zmh hc hj (n0::p) (by rw [zmn,List.all_eq_true.1 hp.2 j hm,hp.1];rfl)
def zmT (P:Program) (md:Region.Mode) (ops:Array Oper) (Q:Exit->Act->World->Prop) (S:World->Prop) (N:Nat->Bool) (f:Nat) (listed:Array Bool) (a:Act) (w:World) (rs:List Nat):Prop:=
 ∀i∈rs,wpOp P ops Q i (fun a' w'=>(N i=false->S w')/\zmZ P md ops Q S N f (listed.setIfInBounds i true) a' w') a w
theorem zmT.nil {f:Nat}{listed:Array Bool}{a:Act}{w:World}:zmT P md ops Q S N f listed a w []:=fun _ h=>by cases h
theorem zmT.cons {f:Nat}{listed:Array Bool}{a:Act}{w:World}{i:Nat}{o:Oper}{rs:List Nat}(ho:ops[i]? = some o)
  (h:∀K':Act->World->Prop,Shut (∀a w,(N i=false->S w)->zmZ P md ops Q S N f (listed.setIfInBounds i true) a w->K' a w)->if Region.wanted o (yielded ops a.tmps)=true then Oper.wp P o a w K' Q else K' (a.put o.dst undef) w)
  (hs:zmT P md ops Q S N f listed a w rs):zmT P md ops Q S N f listed a w (i::rs):=fun j hj=>by
 rcases List.mem_cons.1 hj with rfl | hj
 ·exact wpOp_step ho (fun K' hK=>h K' (fun a w hS hW=>hK a w ⟨hS,hW⟩))
 ·exact hs j hj
theorem zmV {rs:List Nat}{f:Nat}{listed:Array Bool}{a:Act}{w:World}(hr:Region.ready md ops listed=rs) (hne:rs≠[])
  (h:zmT P md ops Q S N f listed a w rs):zmZ P md ops Q S N (f+1) listed a w:=⟨fun h0=>absurd (hr ▸ h0) hne,hr ▸ h⟩
theorem zmi {listed:Array Bool}{a:Act}{w:World}(hr:Region.ready md ops listed=[]) (h:Q .normal a w):∀f,zmZ P md ops Q S N f listed a w
 | 0=>⟨hr,h⟩
 | _+1=>⟨fun _=>h,by rw [hr];simp⟩
theorem zmj (N:Nat->Bool) (S:World->Prop) {id:Nat}{a:Act}{w:World}(hm:P.follows .mixedOrders=true)
  (h:zmZ P .any ops Q S N ops.size (Array.replicate ops.size false) a w.drew):(Code.region id ops true).wp P Q a w:=wp_region_any hm (zmk _ _ _ _ h)
end
section
variable {P:Program}
theorem zmW {w:World}{ops:Array Oper}{o:Oper}{a:Act}{K:Act->World->Prop}{Q:Exit->Act->World->Prop}{E0:Prop}(hgd:o.guard=none) (s x:Operand) (t:TypeId)
  (ho:o.op=.call { callee:=.builtin .append,args:=#[s,x],argTypes:=#[t,t] })
  (e:TypeId) (k bytes:Nat) (z:Value) (hinfo:(P.info? e).map (fun i=>(i.zero,i.size,i.bytes))=some (some z,k,bytes)) (hz:z.cells.size=k) (hk:0<k) (hby:bytes<=1000) (ht:P.underlying t=some (.slice e))
  (base:Nat) (v:Value) (fs:List (List Value)) (hs:a.eval s=v) (hown:zKf e k w base v fs)
  (ad:Addr) (c:Nat) (f:List Value) (hx:a.eval x=.slice (some ad) 1 c) (hn:f.length=k) (hc:∀ (j:Nat) (u:Value),f[j]? = some u->w.cell? (ad.add j)=some u) (h1:∀u∈f,u.oneCell' = true)
  (hlen:fs.length<=1000000) (hbase:base<=w.heap.size)
  (h:∀v' w',w'.ownsRow base e k v' (fs.length+1) (fs.flatten++f)->w.grownBy w' v.ownBlock->(v'.ownBlock=v.ownBlock\/v'.ownBlock=some w.heap.size)->K (a.put o.dst v') w') :
  if Region.wanted o (yielded ops a.tmps)=true then Oper.wp P o a w K Q else E0:=by
 obtain ⟨i,hi,hz',hsize,hb'⟩:=info_parts hinfo;have hw:Region.wanted o (yielded ops a.tmps)=true:=by simp [Region.wanted,hgd]
 rw [if_pos hw];obtain ⟨v',w',hr,h2,h3,_,h5⟩:=run_append_own_at (P:=P) w base t o.type e i z k bytes ht hi hz' hsize hb' hz hk v fs.length fs.flatten hown.own ad 1 c f (by omega) hc h1 (by simp only [maxLen];omega) (Yq (Nat.mul_le_mul (show fs.length+1<=1000001 by omega) hby) (by omega)) hbase;unfold Oper.wp execOp;simp only [ho,resolve,invoke,builtin,Sem.run_bind,Sem.run_pure,Result.andThen_ok,List.map_toArray,List.map_cons,List.map_nil,hs,hx,hr];exact h v' w' h2 h3 h5
end
def Nb (g:Nat) (F V T U:Value):Prop:=F.ownBlock≠some g/\V.ownBlock≠some g/\T.ownBlock≠some g/\U.ownBlock≠some g
structure Bt (lo:Nat) (w:World) (g:Nat) (t:TypeId) (cs:Array Value) (F V T U:Value):Prop where
 blk:Blk w g t cs
 le:lo<=g
 nb:Nb g F V T U
section
variable {lo base g:Nat}{w w':World}{t:TypeId}{cs:Array Value}{F V T U v':Value}
theorem Bt.alloc (h:Bt lo w g t cs F V T U) (o:Obj):Bt lo (w.alloc o) g t cs F V T U:=⟨h.blk.next (zAE _ _),h.le,h.nb⟩
theorem zmu {v:Value}{g n:Nat}(h5:v'.ownBlock=v.ownBlock\/v'.ownBlock=some n) (h:v.ownBlock≠some g) (hg:g<n):v'.ownBlock≠some g:=by
 rcases h5 with h5 | h5
 ·rw [h5];exact h
 ·rw [h5];intro e;injection e with e;omega
theorem Bt.grow (h:Bt lo w g t cs F V T U) {v:Value}(h3:w.grownBy w' v.ownBlock) (hv:v.ownBlock≠some g):Blk w' g t cs:=(h3.block g h.blk.lt (fun e=>hv e.symm)).trans h.blk
theorem Bt.addF (h:Bt lo w g t cs F V T U) (h3:w.grownBy w' F.ownBlock) (h5:v'.ownBlock=F.ownBlock\/v'.ownBlock=some w.heap.size):Bt lo w' g t cs v' V T U:=⟨h.grow h3 h.nb.1,h.le,zmu h5 h.nb.1 h.blk.lt,h.nb.2⟩
theorem Bt.addV (h:Bt lo w g t cs F V T U) (h3:w.grownBy w' V.ownBlock) (h5:v'.ownBlock=V.ownBlock\/v'.ownBlock=some w.heap.size):Bt lo w' g t cs F v' T U:=⟨h.grow h3 h.nb.2.1,h.le,h.nb.1,zmu h5 h.nb.2.1 h.blk.lt,h.nb.2.2⟩
theorem Bt.addT (h:Bt lo w g t cs F V T U) (h3:w.grownBy w' T.ownBlock) (h5:v'.ownBlock=T.ownBlock\/v'.ownBlock=some w.heap.size):Bt lo w' g t cs F V v' U:=⟨h.grow h3 h.nb.2.2.1,h.le,h.nb.1,h.nb.2.1,zmu h5 h.nb.2.2.1 h.blk.lt,h.nb.2.2.2⟩
theorem Bt.addS (h:Bt lo w g t cs F V T U) (h3:w.grownBy w' U.ownBlock) (h5:v'.ownBlock=U.ownBlock\/v'.ownBlock=some w.heap.size):Bt lo w' g t cs F V T v':=⟨h.grow h3 h.nb.2.2.2,h.le,h.nb.1,h.nb.2.1,h.nb.2.2.1,zmu h5 h.nb.2.2.2 h.blk.lt⟩
theorem TkA.new {fF fV fT fS:List (List Value)}{tr:Tk}(h:TkA lo base w F V T U fF fV fT fS tr) (hs:lo<=w.heap.size) (t:TypeId) (cs:Array Value):Bt lo (w.alloc (.cells cs t)) w.heap.size t cs F V T U:=
 ⟨Blk.new _ _ _,hs,fun e=>Nat.lt_irrefl _ (h.f.lt _ e).2,fun e=>Nat.lt_irrefl _ (h.v.lt _ e).2,fun e=>Nat.lt_irrefl _ (h.t.lt _ e).2,fun e=>Nat.lt_irrefl _ (h.s.lt _ e).2⟩
end
theorem zme (A:Option Addr) (n c:Nat) (B:Option Addr) (m d:Nat) (C:Option Addr) (q r:Nat) (U:Option Addr) (s z:Nat) (o p:Int) (w:World) (hn:n<=100000) (hm:m<=100000) (hq:q<=100000) (hs:s<=100000) (h:n≠s+1\/m≠s\/q≠s) :
  Calls Tryz.prog 11 #[.agg #[.slice A n c,.slice B m d,.slice C q r,.slice U s z],.int .i64 o,.int .i64 p] w (zVx (zC0,1) w):=by
 have hW1:=zAE w (.cells #[.slice A n c,.slice B m d,.slice C q r,.slice U s z] 36);have hW2:=zAE (w.alloc (.cells #[.slice A n c,.slice B m d,.slice C q r,.slice U s z] 36)) (.cells #[.int .i64 0,.int .i64 0,.slice none 0 0,.slice none 0 0,.slice none 0 0,.slice none 0 0] 29);have hb0:=zAA hW1 hW2;have kx:=(Blk.new w 36 #[.slice A n c,.slice B m d,.slice C q r,.slice U s z]).next hW2;have kr:Blk ((w.alloc (.cells #[.slice A n c,.slice B m d,.slice C q r,.slice U s z] 36)).alloc (.cells #[.int .i64 0,.int .i64 0,.slice none 0 0,.slice none 0 0,.slice none 0 0,.slice none 0 0] 29)) (w.heap.size+1) 29 #[.int .i64 0,.int .i64 0,.slice none 0 0,.slice none 0 0,.slice none 0 0,.slice none 0 0]:=Blk.newAt _ _ _ (by simp);obtain ⟨p0,p1,p2,p3⟩:=kx.cells4;clear hW1 hW2 kx;have hw:IntKind.i64.wrap ((s:Int)+1)=(s:Int)+1:=IntWalk.i64_in _ (by omega);by_cases e1:n=s+1
 rotate_left
 ·have g1:((n:Int) != (s:Int)+1)=true:=by rw [bne_iff_ne];omega
  go_enter Tryz.func11,Tryz.ntmps11
  go_wp2_with fail
  refine Yn (zBL Tryz.results11 rfl kr) rfl ?_;exact ⟨_,rfl,rfl,zA3 _,hb0⟩
 have g1:((n:Int) != (s:Int)+1)=false:=by rw [bne_eq_false_iff_eq];omega
 have h':m≠s\/q≠s:=by omega
 clear e1 h;by_cases e2:m=s
 rotate_left
 ·have g2:((m:Int) != (s:Int))=true:=by rw [bne_iff_ne];omega
  go_enter Tryz.func11,Tryz.ntmps11
  go_wp2_with fail
  refine Yn (zBL Tryz.results11 rfl kr) rfl ?_;exact ⟨_,rfl,rfl,zA3 _,hb0⟩
 have g2:((m:Int) != (s:Int))=false:=by rw [bne_eq_false_iff_eq];omega
 ·have g3:((q:Int) != (s:Int))=true:=by rw [bne_iff_ne];omega
  clear e2 h';go_enter Tryz.func11,Tryz.ntmps11
  go_wp2_with fail
  refine Yn (zBL Tryz.results11 rfl kr) rfl ?_;exact ⟨_,rfl,rfl,zA3 _,hb0⟩
def zm2 (x:Ct) (o p:Int):Ct×Int:=if ctV { x with prec:=p,order:=o } = true then ({ x with prec:=p,order:=o },0) else (zC0,1)
theorem zm6 {W:World}{y:Lk}{H:Option Addr}{hn hc:Nat}{T:Option Addr}{tn tc:Nat}{A:Option Addr}{n c:Nat}{B:Option Addr}{m d:Nat}{C:Option Addr}{p q:Nat}{V:Option Addr}{vn vc:Nat}
  (h1:RD W [.bool y.h.neg,.slice H hn hc,.int .i64 y.h.e] y.h) (h2:RB1 W [.slice T tn tc] y.tube) (h3:RF W [.slice A n c,.slice B m d,.slice C p q] y.e) (h4:RV1 W [.slice V vn vc] y.v) :
  RL W [.bool y.h.neg,.slice H hn hc,.int .i64 y.h.e,.slice T tn tc,.slice A n c,.slice B m d,.slice C p q,.slice V vn vc] y:=by
 obtain ⟨_,_,_,e1,k1⟩:=h1;obtain ⟨_,_,_,e2,k2⟩:=h2;obtain ⟨_,_,_,_,_,_,_,_,_,e3,k3,k4,k5⟩:=h3;obtain ⟨_,_,_,e4,k6⟩:=h4;simp at e1 e2 e3 e4;obtain ⟨rfl,rfl,rfl⟩:=e1;obtain ⟨rfl,rfl,rfl⟩:=e2;obtain ⟨⟨rfl,rfl,rfl⟩,⟨rfl,rfl,rfl⟩,rfl,rfl,rfl⟩:=e3;obtain ⟨rfl,rfl,rfl⟩:=e4;exact ⟨_,_,_,_,_,_,_,_,_,_,_,_,_,_,_,_,_,_,rfl,k1,k2,k3,k4,k5,k6⟩
theorem zmz (vs:List Value) (x:Ct) (o p:Int) (w:World) (h:RT w vs (trP x)) (hx:BdC x) (hl:x.links.length<=1000) (ht:zBx w):Calls Tryz.prog 11 #[.agg vs.toArray,.int .i64 o,.int .i64 p] w (zVx (zm2 x o p) w):=by
 obtain ⟨A,n,c,B,m,d,C,q,r,U,s,z,rfl,h1,h2,h3,h4⟩:=h;obtain ⟨N,hN⟩:∃N,x.links.length=N:=⟨_,rfl⟩;obtain rfl:n=N+1:=by rw [<- h1.len,<- hN];simp [trP]
 obtain rfl:m=N:=by rw [<- h2.len,<- hN];simp [trP]
 obtain rfl:q=m:=by rw [<- h3.len,<- hN];simp [trP]
 obtain rfl:s=q:=by rw [<- h4.len,<- hN];simp [trP]
 obtain ⟨b0,off0,f0,us0,rfl,hb0l,hf0,hu0,hR0,hc0⟩:=h1.get (j:=0) (by omega);simp [trP] at hf0;subst hf0;obtain ⟨FA,fn,fc,FB,fm,fd,FC,fp,fq,rfl,g1,g2,g3⟩:=hR0;have HX1:=Zh h1;have HX2:=Zh h2;have HX3:=Zh h3;have HX4:=Zh h4;have HN:=Zh hN;have HT:=Zh (fun W (hb:Below w.heap.size w W)=>ht.next hb);have HST:=Zh (fun W (hb:Below w.heap.size w W)=>And.intro (g1.next zAQ hb) (And.intro (g2.next zAh hb) (g3.next zAX hb)));have m1:=h1.cap;have m2:=h2.cap;have m3:=h3.cap;have m4:=h4.cap;have n1:=h1.max;have n2:=h2.max;have n3:=h3.max;have n4:=h4.max;have hs1000:s<=1000:=by omega
 have hw:IntKind.i64.wrap ((s:Int)+1)=(s:Int)+1:=IntWalk.i64_in _ (by omega);have e1:(((s+1:Nat):Int) != (s:Int)+1)=false:=by rw [bne_eq_false_iff_eq];omega
 have e2:((s:Int) != (s:Int))=false:=by simp
 have hBd:BdC { x with prec:=p,order:=o }:=⟨hx.s,hx.l⟩;have H1:=Zh (fun us W (hr:RC W us { x with prec:=p,order:=o }) (hb:Below w.heap.size w W)=>zBe us { x with prec:=p,order:=o } W hr hBd (ht.next hb));have H4:=Zh (fun (hv:ctV { x with prec:=p,order:=o } = true) us W (hr:RC W us { x with prec:=p,order:=o })=>zHS us { x with prec:=p,order:=o } W hr hBd hv);obtain ⟨cv,hcv⟩:∃cv,ctV { x with prec:=p,order:=o } = cv:=⟨_,rfl⟩;rw [hcv] at H1;have HCV:=Zh hcv;have HPP:Hid (zm2 x o p=if ctV { x with prec:=p,order:=o } = true then ({ x with prec:=p,order:=o },0) else (zC0,1)):=rfl;generalize zm2 x o p=PP at *;have hW1:=zAE w (.cells #[.slice (some ⟨b0,off0,none⟩) (s+1) c,.slice B s d,.slice C s r,.slice U s z] 36);have hW2:=zAE (w.alloc (.cells #[.slice (some ⟨b0,off0,none⟩) (s+1) c,.slice B s d,.slice C s r,.slice U s z] 36)) (.cells #[.int .i64 0,.int .i64 0,.slice none 0 0,.slice none 0 0,.slice none 0 0,.slice none 0 0] 29);have hW3:=zAE ((w.alloc (.cells #[.slice (some ⟨b0,off0,none⟩) (s+1) c,.slice B s d,.slice C s r,.slice U s z] 36)).alloc (.cells #[.int .i64 0,.int .i64 0,.slice none 0 0,.slice none 0 0,.slice none 0 0,.slice none 0 0] 29)) (.cells #[.int .i64 p,.int .i64 o,.slice FA fn fc,.slice FB fm fd,.slice FC fp fq,.slice none 0 0] 29);have hb02:=zAA hW1 hW2;have kx2:=(Blk.new w 36 #[.slice (some ⟨b0,off0,none⟩) (s+1) c,.slice B s d,.slice C s r,.slice U s z]).next hW2;have kx3:=kx2.next hW3;have kr3:=(Blk.newAt (w.alloc (.cells #[.slice (some ⟨b0,off0,none⟩) (s+1) c,.slice B s d,.slice C s r,.slice U s z] 36)) 29 #[.int .i64 0,.int .i64 0,.slice none 0 0,.slice none 0 0,.slice none 0 0,.slice none 0 0] (g:=w.heap.size+1) (by simp)).next hW3;have kg3:Blk (((w.alloc (.cells #[.slice (some ⟨b0,off0,none⟩) (s+1) c,.slice B s d,.slice C s r,.slice U s z] 36)).alloc (.cells #[.int .i64 0,.int .i64 0,.slice none 0 0,.slice none 0 0,.slice none 0 0,.slice none 0 0] 29)).alloc (.cells #[.int .i64 p,.int .i64 o,.slice FA fn fc,.slice FB fm fd,.slice FC fp fq,.slice none 0 0] 29)) (w.heap.size+1+1) 29 #[.int .i64 p,.int .i64 o,.slice FA fn fc,.slice FB fm fd,.slice FC fp fq,.slice none 0 0]:=Blk.newAt _ _ _ (by simp);have hb0:=zAA hb02 hW3;have hsz:(((w.alloc (.cells #[.slice (some ⟨b0,off0,none⟩) (s+1) c,.slice B s d,.slice C s r,.slice U s z] 36)).alloc (.cells #[.int .i64 0,.int .i64 0,.slice none 0 0,.slice none 0 0,.slice none 0 0,.slice none 0 0] 29)).alloc (.cells #[.int .i64 p,.int .i64 o,.slice FA fn fc,.slice FB fm fd,.slice FC fp fq,.slice none 0 0] 29)).heap.size=w.heap.size+3:=by simp
 have hsz1:=Ys hsz;have hsz2:=Ys hsz.symm;have f0:=((hb02.cell (p:=⟨b0,off0,none⟩) hb0l).trans (by simpa using hc0 0 _ rfl));have f1:=((hb02.cell (p:=⟨b0,off0+1,none⟩) hb0l).trans (by simpa using hc0 1 _ rfl));have f2:=((hb02.cell (p:=⟨b0,off0+2,none⟩) hb0l).trans (by simpa using hc0 2 _ rfl));obtain ⟨p0,p1,p2,p3⟩:=kx2.cells4;have HB0:=Zh hb0;have HKX:=Zh kx3;have HKR:=Zh kr3;have HKG:=Zh kg3;clear h1 h2 h3 h4 g1 g2 g3 hc0 hu0 hW1 hW2 hW3 hb02 kx2 kx3 kr3 kg3 hb0 hsz hN hx ht hBd hcv hl;go_enter Tryz.func11,Tryz.ntmps11
 go_wp2_with fail
 clear p0 p1 p2 p3 f0 f1 f2;generalize (((w.alloc (.cells #[.slice (some ⟨b0,off0,none⟩) (s+1) c,.slice B s d,.slice C s r,.slice U s z] 36)).alloc (.cells #[.int .i64 0,.int .i64 0,.slice none 0 0,.slice none 0 0,.slice none 0 0,.slice none 0 0] 29)).alloc (.cells #[.int .i64 p,.int .i64 o,.slice FA fn fc,.slice FB fm fd,.slice FC fp fq,.slice none 0 0] 29))=W0 at *
 go_loopw [43] (fun i wr=>∃ (k:Nat) (v:Value) (fs:List (List Value)),k<=s/\i=.int .i64 k/\Hid (zmc 86 8 RL w.heap.size W0.heap.size wr v fs (x.links.take k))/\Hid (Blk wr (w.heap.size+1+1) 29 #[.int .i64 p,.int .i64 o,.slice FA fn fc,.slice FB fm fd,.slice FC fp fq,v])/\Hid (KR (w.heap.size+1+1) W0 wr)) (fun i _=>s - (intOf i).toNat)
 case atStart=>exact ⟨0,_,_,by omega,rfl,zmc.nil _ _ _ (by omega) _,HKG.out,KR.refl _ _⟩
 case round=>
  obtain ⟨k,v,fs,hk,rfl,HA,HG,HK⟩:=hrel;have hwr:=HK.out.size;have HBR:=Zh (HB0.out.trans (HK.out.below (B:=w.heap.size) (by omega) (by omega)));have HXr:=Zh (HK.out.blk HKX.out (by omega));by_cases hlt:k<s
  ·obtain ⟨b1,o1,y0,v1,eU,hb1l,hd1,hv1,hR1,hc1⟩:=HX4.out.get hlt
   subst eU;obtain ⟨b2,o2,y2,v2,eC,hb2l,hd2,hv2,hR2,hc2⟩:=HX3.out.get hlt;subst eC;obtain ⟨b3,o3,y3,v3,eB,hb3l,hd3,hv3,hR3,hc3⟩:=HX2.out.get hlt;subst eB;obtain ⟨y4,v4,hb4l,hd4,hv4,hR4,hc4⟩:=HX1.out.get' (j:=k+1) (by omega);have hkx:k<x.links.length:=by rw [HN.out];exact hlt
   have hx:x.links[k]? = some x.links[k]:=Yo hkx;generalize x.links[k]=y at *;simp [trP,hx] at hd1 hd2 hd3 hd4;subst hd1 hd2 hd3 hd4;have HTK:Hid (x.links.take (k+1)=x.links.take k++[y]):=by unfold Hid;rw [List.take_add_one,hx];rfl
   obtain ⟨yH,yhn,yhc,rfl,kh⟩:=hR1;obtain ⟨yT,ytn,ytc,rfl,kt⟩:=hR2;obtain ⟨yV,yvn,yvc,rfl,kv⟩:=hR3;obtain ⟨yA,yn,yc,yB,ym,yd,yC,yp,yq,rfl,ka,kb,kc⟩:=hR4;have HRL:Hid (On w.heap.size (fun b=>b<w.heap.size) w (fun W=>RL W [.bool y.h.neg,.slice yH yhn yhc,.int .i64 y.h.e,.slice yT ytn ytc,.slice yA yn yc,.slice yB ym yd,.slice yC yp yq,.slice yV yvn yvc] y)):=zeL zBt zUB (zm6 ⟨_,_,_,rfl,kh⟩ ⟨_,_,_,rfl,kt⟩ ⟨_,_,_,_,_,_,_,_,_,rfl,ka,kb,kc⟩ ⟨_,_,_,rfl,kv⟩);have hfl:fs.length<=2000:=by have h1:=HA.out.len;rw [Yr] at h1;omega
   have hkw:IntKind.i64.wrap ((k:Int)+1)=(k:Int)+1:=IntWalk.i64_in _ (by omega);have hk0:(0:Int)<=(k:Int)+1:=by omega
   have hB:=zBw wr;have HS0:Hid ((fun W=>Blk W w.heap.size 36 #[.slice (some ⟨b0,off0,none⟩) (s+1) c,.slice (some ⟨b3,o3,none⟩) s d,.slice (some ⟨b2,o2,none⟩) s r,.slice (some ⟨b1,o1,none⟩) s z]/\∀b,b<w.heap.size->W.heap[b]? = w.heap[b]?) wr.drew):=⟨HXr.out.next hB,fun b hb=>(hB.block b (by omega)).trans (HBR.out.block b hb)⟩;have HA1:=Zh (HA.out.below (by omega) hB);have HG1:=Zh (HG.out.next hB);have HK1:=Zh (HK.out.trans (KR.of hB));have hsd:wr.heap.size<=wr.drew.heap.size:=Ya _;clear kh kt kv ka kb kc hx hv1 hv2 hv3 hv4 hB;go_wp2_with fail
   refine zmj (fun j=>(27::[]).contains j) (fun W=>(Blk W w.heap.size 36 #[.slice (some ⟨b0,off0,none⟩) (s+1) c,.slice (some ⟨b3,o3,none⟩) s d,.slice (some ⟨b2,o2,none⟩) s r,.slice (some ⟨b1,o1,none⟩) s z]/\∀b,b<w.heap.size->W.heap[b]? = w.heap[b]?)/\Blk W (w.heap.size+1+1) 29 #[.int .i64 p,.int .i64 o,.slice FA fn fc,.slice FB fm fd,.slice FC fp fq,v]) (by kernel_rfl) ?_;have hH:=And.intro HS0.out HG1.out;generalize wr.drew=Wd at *;refine zmU (i:=0) (n0:=27) (p:=[]) (oi:=⟨_,_,_,_,_,_⟩) (v:=?_) rfl (by kernel_rfl) (by kernel_rfl) (by kernel_rfl) (by kernel_rfl) (by kernel_rfl) (fun _ _ _ h=>h) ⟨by rfl,?_⟩ hH ?_;rotate_left
   ·(intro w hSw;go_simp;try (with_reducible rfl))
   simp only [Act.put,sT,sZ,sS];refine zmU (i:=1) (n0:=27) (p:=[]) (oi:=⟨_,_,_,_,_,_⟩) (v:=?_) rfl (by kernel_rfl) (by kernel_rfl) (by kernel_rfl) (by kernel_rfl) (by kernel_rfl) (fun _ _ _ h=>h) ⟨by rfl,?_⟩ hH ?_;rotate_left
   ·(intro w hSw;obtain ⟨⟨hT,hO⟩,hG⟩:=hSw;obtain ⟨p0,p1,p2,p3⟩:=hT.cells4;obtain ⟨r0,r1,r2,r3,r4,r5⟩:=hG.cells6;have a0:=(World.cell?_of_block (a:=⟨b1,o1+k*3+0,none⟩) (hO b1 hb1l)).trans (hc1 0 _ rfl);have a1:=(World.cell?_of_block (a:=⟨b1,o1+k*3+1,none⟩) (hO b1 hb1l)).trans (hc1 1 _ rfl);have a2:=(World.cell?_of_block (a:=⟨b1,o1+k*3+2,none⟩) (hO b1 hb1l)).trans (hc1 2 _ rfl);have d0:=(World.cell?_of_block (a:=⟨b2,o2+k*1+0,none⟩) (hO b2 hb2l)).trans (hc2 0 _ rfl);have e0:=(World.cell?_of_block (a:=⟨b3,o3+k*1+0,none⟩) (hO b3 hb3l)).trans (hc3 0 _ rfl);have g0:=(World.cell?_of_block (a:=⟨b0,off0+(k+1)*3+0,none⟩) (hO b0 hb4l)).trans (hc4 0 _ rfl);have g1:=(World.cell?_of_block (a:=⟨b0,off0+(k+1)*3+1,none⟩) (hO b0 hb4l)).trans (hc4 1 _ rfl);have g2:=(World.cell?_of_block (a:=⟨b0,off0+(k+1)*3+2,none⟩) (hO b0 hb4l)).trans (hc4 2 _ rfl);simp only [Nat.add_zero,Nat.mul_one] at a0 d0 e0 g0;go_simp;try (with_reducible rfl))
   simp only [Act.put,sT,sZ,sS];refine zmU (i:=2) (n0:=27) (p:=[]) (oi:=⟨_,_,_,_,_,_⟩) (v:=?_) rfl (by kernel_rfl) (by kernel_rfl) (by kernel_rfl) (by kernel_rfl) (by kernel_rfl) (fun _ _ _ h=>h) ⟨by rfl,?_⟩ hH ?_;rotate_left
   ·(intro w hSw;go_simp;try (with_reducible rfl))
   simp only [Act.put,sT,sZ,sS];refine zmU (i:=3) (n0:=27) (p:=[]) (oi:=⟨_,_,_,_,_,_⟩) (v:=?_) rfl (by kernel_rfl) (by kernel_rfl) (by kernel_rfl) (by kernel_rfl) (by kernel_rfl) (fun _ _ _ h=>h) ⟨by rfl,?_⟩ hH ?_;rotate_left
   ·(intro w hSw;obtain ⟨⟨hT,hO⟩,hG⟩:=hSw;obtain ⟨p0,p1,p2,p3⟩:=hT.cells4;obtain ⟨r0,r1,r2,r3,r4,r5⟩:=hG.cells6;have a0:=(World.cell?_of_block (a:=⟨b1,o1+k*3+0,none⟩) (hO b1 hb1l)).trans (hc1 0 _ rfl);have a1:=(World.cell?_of_block (a:=⟨b1,o1+k*3+1,none⟩) (hO b1 hb1l)).trans (hc1 1 _ rfl);have a2:=(World.cell?_of_block (a:=⟨b1,o1+k*3+2,none⟩) (hO b1 hb1l)).trans (hc1 2 _ rfl);have d0:=(World.cell?_of_block (a:=⟨b2,o2+k*1+0,none⟩) (hO b2 hb2l)).trans (hc2 0 _ rfl);have e0:=(World.cell?_of_block (a:=⟨b3,o3+k*1+0,none⟩) (hO b3 hb3l)).trans (hc3 0 _ rfl);have g0:=(World.cell?_of_block (a:=⟨b0,off0+(k+1)*3+0,none⟩) (hO b0 hb4l)).trans (hc4 0 _ rfl);have g1:=(World.cell?_of_block (a:=⟨b0,off0+(k+1)*3+1,none⟩) (hO b0 hb4l)).trans (hc4 1 _ rfl);have g2:=(World.cell?_of_block (a:=⟨b0,off0+(k+1)*3+2,none⟩) (hO b0 hb4l)).trans (hc4 2 _ rfl);simp only [Nat.add_zero,Nat.mul_one] at a0 d0 e0 g0;go_simp;try (with_reducible rfl))
   simp only [Act.put,sT,sZ,sS];refine zmU (i:=4) (n0:=27) (p:=[]) (oi:=⟨_,_,_,_,_,_⟩) (v:=?_) rfl (by kernel_rfl) (by kernel_rfl) (by kernel_rfl) (by kernel_rfl) (by kernel_rfl) (fun _ _ _ h=>h) ⟨by rfl,?_⟩ hH ?_;rotate_left
   ·(intro w hSw;go_simp;try (with_reducible rfl))
   simp only [Act.put,sT,sZ,sS];refine zmU (i:=5) (n0:=27) (p:=[]) (oi:=⟨_,_,_,_,_,_⟩) (v:=?_) rfl (by kernel_rfl) (by kernel_rfl) (by kernel_rfl) (by kernel_rfl) (by kernel_rfl) (fun _ _ _ h=>h) ⟨by rfl,?_⟩ hH ?_;rotate_left
   ·(intro w hSw;go_simp;try (with_reducible rfl))
   simp only [Act.put,sT,sZ,sS];refine zmU (i:=6) (n0:=27) (p:=[]) (oi:=⟨_,_,_,_,_,_⟩) (v:=?_) rfl (by kernel_rfl) (by kernel_rfl) (by kernel_rfl) (by kernel_rfl) (by kernel_rfl) (fun _ _ _ h=>h) ⟨by rfl,?_⟩ hH ?_;rotate_left
   ·(intro w hSw;obtain ⟨⟨hT,hO⟩,hG⟩:=hSw;obtain ⟨p0,p1,p2,p3⟩:=hT.cells4;obtain ⟨r0,r1,r2,r3,r4,r5⟩:=hG.cells6;have a0:=(World.cell?_of_block (a:=⟨b1,o1+k*3+0,none⟩) (hO b1 hb1l)).trans (hc1 0 _ rfl);have a1:=(World.cell?_of_block (a:=⟨b1,o1+k*3+1,none⟩) (hO b1 hb1l)).trans (hc1 1 _ rfl);have a2:=(World.cell?_of_block (a:=⟨b1,o1+k*3+2,none⟩) (hO b1 hb1l)).trans (hc1 2 _ rfl);have d0:=(World.cell?_of_block (a:=⟨b2,o2+k*1+0,none⟩) (hO b2 hb2l)).trans (hc2 0 _ rfl);have e0:=(World.cell?_of_block (a:=⟨b3,o3+k*1+0,none⟩) (hO b3 hb3l)).trans (hc3 0 _ rfl);have g0:=(World.cell?_of_block (a:=⟨b0,off0+(k+1)*3+0,none⟩) (hO b0 hb4l)).trans (hc4 0 _ rfl);have g1:=(World.cell?_of_block (a:=⟨b0,off0+(k+1)*3+1,none⟩) (hO b0 hb4l)).trans (hc4 1 _ rfl);have g2:=(World.cell?_of_block (a:=⟨b0,off0+(k+1)*3+2,none⟩) (hO b0 hb4l)).trans (hc4 2 _ rfl);simp only [Nat.add_zero,Nat.mul_one] at a0 d0 e0 g0;go_simp;try (with_reducible rfl))
   simp only [Act.put,sT,sZ,sS];refine zmU (i:=7) (n0:=27) (p:=[]) (oi:=⟨_,_,_,_,_,_⟩) (v:=?_) rfl (by kernel_rfl) (by kernel_rfl) (by kernel_rfl) (by kernel_rfl) (by kernel_rfl) (fun _ _ _ h=>h) ⟨by rfl,?_⟩ hH ?_;rotate_left
   ·(intro w hSw;go_simp;try (with_reducible rfl))
   simp only [Act.put,sT,sZ,sS];refine zmU (i:=8) (n0:=27) (p:=[]) (oi:=⟨_,_,_,_,_,_⟩) (v:=?_) rfl (by kernel_rfl) (by kernel_rfl) (by kernel_rfl) (by kernel_rfl) (by kernel_rfl) (fun _ _ _ h=>h) ⟨by rfl,?_⟩ hH ?_;rotate_left
   ·(intro w hSw;obtain ⟨⟨hT,hO⟩,hG⟩:=hSw;obtain ⟨p0,p1,p2,p3⟩:=hT.cells4;obtain ⟨r0,r1,r2,r3,r4,r5⟩:=hG.cells6;have a0:=(World.cell?_of_block (a:=⟨b1,o1+k*3+0,none⟩) (hO b1 hb1l)).trans (hc1 0 _ rfl);have a1:=(World.cell?_of_block (a:=⟨b1,o1+k*3+1,none⟩) (hO b1 hb1l)).trans (hc1 1 _ rfl);have a2:=(World.cell?_of_block (a:=⟨b1,o1+k*3+2,none⟩) (hO b1 hb1l)).trans (hc1 2 _ rfl);have d0:=(World.cell?_of_block (a:=⟨b2,o2+k*1+0,none⟩) (hO b2 hb2l)).trans (hc2 0 _ rfl);have e0:=(World.cell?_of_block (a:=⟨b3,o3+k*1+0,none⟩) (hO b3 hb3l)).trans (hc3 0 _ rfl);have g0:=(World.cell?_of_block (a:=⟨b0,off0+(k+1)*3+0,none⟩) (hO b0 hb4l)).trans (hc4 0 _ rfl);have g1:=(World.cell?_of_block (a:=⟨b0,off0+(k+1)*3+1,none⟩) (hO b0 hb4l)).trans (hc4 1 _ rfl);have g2:=(World.cell?_of_block (a:=⟨b0,off0+(k+1)*3+2,none⟩) (hO b0 hb4l)).trans (hc4 2 _ rfl);simp only [Nat.add_zero,Nat.mul_one] at a0 d0 e0 g0;go_simp;try (with_reducible rfl))
   simp only [Act.put,sT,sZ,sS];refine zmU (i:=9) (n0:=27) (p:=[]) (oi:=⟨_,_,_,_,_,_⟩) (v:=?_) rfl (by kernel_rfl) (by kernel_rfl) (by kernel_rfl) (by kernel_rfl) (by kernel_rfl) (fun _ _ _ h=>h) ⟨by rfl,?_⟩ hH ?_;rotate_left
   ·(intro w hSw;go_simp;try (with_reducible rfl))
   simp only [Act.put,sT,sZ,sS];refine zmU (i:=10) (n0:=27) (p:=[]) (oi:=⟨_,_,_,_,_,_⟩) (v:=?_) rfl (by kernel_rfl) (by kernel_rfl) (by kernel_rfl) (by kernel_rfl) (by kernel_rfl) (fun _ _ _ h=>h) ⟨by rfl,?_⟩ hH ?_;rotate_left
   ·(intro w hSw;go_simp;try (with_reducible rfl))
   simp only [Act.put,sT,sZ,sS];refine zmU (i:=11) (n0:=27) (p:=[]) (oi:=⟨_,_,_,_,_,_⟩) (v:=?_) rfl (by kernel_rfl) (by kernel_rfl) (by kernel_rfl) (by kernel_rfl) (by kernel_rfl) (fun _ _ _ h=>h) ⟨by rfl,?_⟩ hH ?_;rotate_left
   ·(intro w hSw;obtain ⟨⟨hT,hO⟩,hG⟩:=hSw;obtain ⟨p0,p1,p2,p3⟩:=hT.cells4;obtain ⟨r0,r1,r2,r3,r4,r5⟩:=hG.cells6;have a0:=(World.cell?_of_block (a:=⟨b1,o1+k*3+0,none⟩) (hO b1 hb1l)).trans (hc1 0 _ rfl);have a1:=(World.cell?_of_block (a:=⟨b1,o1+k*3+1,none⟩) (hO b1 hb1l)).trans (hc1 1 _ rfl);have a2:=(World.cell?_of_block (a:=⟨b1,o1+k*3+2,none⟩) (hO b1 hb1l)).trans (hc1 2 _ rfl);have d0:=(World.cell?_of_block (a:=⟨b2,o2+k*1+0,none⟩) (hO b2 hb2l)).trans (hc2 0 _ rfl);have e0:=(World.cell?_of_block (a:=⟨b3,o3+k*1+0,none⟩) (hO b3 hb3l)).trans (hc3 0 _ rfl);have g0:=(World.cell?_of_block (a:=⟨b0,off0+(k+1)*3+0,none⟩) (hO b0 hb4l)).trans (hc4 0 _ rfl);have g1:=(World.cell?_of_block (a:=⟨b0,off0+(k+1)*3+1,none⟩) (hO b0 hb4l)).trans (hc4 1 _ rfl);have g2:=(World.cell?_of_block (a:=⟨b0,off0+(k+1)*3+2,none⟩) (hO b0 hb4l)).trans (hc4 2 _ rfl);simp only [Nat.add_zero,Nat.mul_one] at a0 d0 e0 g0;go_simp;try (with_reducible rfl))
   simp only [Act.put,sT,sZ,sS];refine zmU (i:=12) (n0:=27) (p:=[]) (oi:=⟨_,_,_,_,_,_⟩) (v:=?_) rfl (by kernel_rfl) (by kernel_rfl) (by kernel_rfl) (by kernel_rfl) (by kernel_rfl) (fun _ _ _ h=>h) ⟨by rfl,?_⟩ hH ?_;rotate_left
   ·(intro w hSw;go_simp;try (with_reducible rfl))
   simp only [Act.put,sT,sZ,sS];refine zmU (i:=13) (n0:=27) (p:=[]) (oi:=⟨_,_,_,_,_,_⟩) (v:=?_) rfl (by kernel_rfl) (by kernel_rfl) (by kernel_rfl) (by kernel_rfl) (by kernel_rfl) (fun _ _ _ h=>h) ⟨by rfl,?_⟩ hH ?_;rotate_left
   ·(intro w hSw;obtain ⟨⟨hT,hO⟩,hG⟩:=hSw;obtain ⟨p0,p1,p2,p3⟩:=hT.cells4;obtain ⟨r0,r1,r2,r3,r4,r5⟩:=hG.cells6;have a0:=(World.cell?_of_block (a:=⟨b1,o1+k*3+0,none⟩) (hO b1 hb1l)).trans (hc1 0 _ rfl);have a1:=(World.cell?_of_block (a:=⟨b1,o1+k*3+1,none⟩) (hO b1 hb1l)).trans (hc1 1 _ rfl);have a2:=(World.cell?_of_block (a:=⟨b1,o1+k*3+2,none⟩) (hO b1 hb1l)).trans (hc1 2 _ rfl);have d0:=(World.cell?_of_block (a:=⟨b2,o2+k*1+0,none⟩) (hO b2 hb2l)).trans (hc2 0 _ rfl);have e0:=(World.cell?_of_block (a:=⟨b3,o3+k*1+0,none⟩) (hO b3 hb3l)).trans (hc3 0 _ rfl);have g0:=(World.cell?_of_block (a:=⟨b0,off0+(k+1)*3+0,none⟩) (hO b0 hb4l)).trans (hc4 0 _ rfl);have g1:=(World.cell?_of_block (a:=⟨b0,off0+(k+1)*3+1,none⟩) (hO b0 hb4l)).trans (hc4 1 _ rfl);have g2:=(World.cell?_of_block (a:=⟨b0,off0+(k+1)*3+2,none⟩) (hO b0 hb4l)).trans (hc4 2 _ rfl);simp only [Nat.add_zero,Nat.mul_one] at a0 d0 e0 g0;go_simp;try (with_reducible rfl))
   simp only [Act.put,sT,sZ,sS];refine zmU (i:=14) (n0:=27) (p:=[]) (oi:=⟨_,_,_,_,_,_⟩) (v:=?_) rfl (by kernel_rfl) (by kernel_rfl) (by kernel_rfl) (by kernel_rfl) (by kernel_rfl) (fun _ _ _ h=>h) ⟨by rfl,?_⟩ hH ?_;rotate_left
   ·(intro w hSw;go_simp;try (with_reducible rfl))
   simp only [Act.put,sT,sZ,sS];refine zmU (i:=15) (n0:=27) (p:=[]) (oi:=⟨_,_,_,_,_,_⟩) (v:=?_) rfl (by kernel_rfl) (by kernel_rfl) (by kernel_rfl) (by kernel_rfl) (by kernel_rfl) (fun _ _ _ h=>h) ⟨by rfl,?_⟩ hH ?_;rotate_left
   ·(intro w hSw;go_simp;try (with_reducible rfl))
   simp only [Act.put,sT,sZ,sS];refine zmU (i:=16) (n0:=27) (p:=[]) (oi:=⟨_,_,_,_,_,_⟩) (v:=?_) rfl (by kernel_rfl) (by kernel_rfl) (by kernel_rfl) (by kernel_rfl) (by kernel_rfl) (fun _ _ _ h=>h) ⟨by rfl,?_⟩ hH ?_;rotate_left
   ·(intro w hSw;go_simp;try (with_reducible rfl))
   simp only [Act.put,sT,sZ,sS];refine zmU (i:=17) (n0:=27) (p:=[]) (oi:=⟨_,_,_,_,_,_⟩) (v:=?_) rfl (by kernel_rfl) (by kernel_rfl) (by kernel_rfl) (by kernel_rfl) (by kernel_rfl) (fun _ _ _ h=>h) ⟨by rfl,?_⟩ hH ?_;rotate_left
   ·(intro w hSw;obtain ⟨⟨hT,hO⟩,hG⟩:=hSw;obtain ⟨p0,p1,p2,p3⟩:=hT.cells4;obtain ⟨r0,r1,r2,r3,r4,r5⟩:=hG.cells6;have a0:=(World.cell?_of_block (a:=⟨b1,o1+k*3+0,none⟩) (hO b1 hb1l)).trans (hc1 0 _ rfl);have a1:=(World.cell?_of_block (a:=⟨b1,o1+k*3+1,none⟩) (hO b1 hb1l)).trans (hc1 1 _ rfl);have a2:=(World.cell?_of_block (a:=⟨b1,o1+k*3+2,none⟩) (hO b1 hb1l)).trans (hc1 2 _ rfl);have d0:=(World.cell?_of_block (a:=⟨b2,o2+k*1+0,none⟩) (hO b2 hb2l)).trans (hc2 0 _ rfl);have e0:=(World.cell?_of_block (a:=⟨b3,o3+k*1+0,none⟩) (hO b3 hb3l)).trans (hc3 0 _ rfl);have g0:=(World.cell?_of_block (a:=⟨b0,off0+(k+1)*3+0,none⟩) (hO b0 hb4l)).trans (hc4 0 _ rfl);have g1:=(World.cell?_of_block (a:=⟨b0,off0+(k+1)*3+1,none⟩) (hO b0 hb4l)).trans (hc4 1 _ rfl);have g2:=(World.cell?_of_block (a:=⟨b0,off0+(k+1)*3+2,none⟩) (hO b0 hb4l)).trans (hc4 2 _ rfl);simp only [Nat.add_zero,Nat.mul_one] at a0 d0 e0 g0;go_simp;try (with_reducible rfl))
   simp only [Act.put,sT,sZ,sS];refine zmU (i:=18) (n0:=27) (p:=[]) (oi:=⟨_,_,_,_,_,_⟩) (v:=?_) rfl (by kernel_rfl) (by kernel_rfl) (by kernel_rfl) (by kernel_rfl) (by kernel_rfl) (fun _ _ _ h=>h) ⟨by rfl,?_⟩ hH ?_;rotate_left
   ·(intro w hSw;go_simp;try (with_reducible rfl))
   simp only [Act.put,sT,sZ,sS];refine zmU (i:=19) (n0:=27) (p:=[]) (oi:=⟨_,_,_,_,_,_⟩) (v:=?_) rfl (by kernel_rfl) (by kernel_rfl) (by kernel_rfl) (by kernel_rfl) (by kernel_rfl) (fun _ _ _ h=>h) ⟨by rfl,?_⟩ hH ?_;rotate_left
   ·(intro w hSw;obtain ⟨⟨hT,hO⟩,hG⟩:=hSw;obtain ⟨p0,p1,p2,p3⟩:=hT.cells4;obtain ⟨r0,r1,r2,r3,r4,r5⟩:=hG.cells6;have a0:=(World.cell?_of_block (a:=⟨b1,o1+k*3+0,none⟩) (hO b1 hb1l)).trans (hc1 0 _ rfl);have a1:=(World.cell?_of_block (a:=⟨b1,o1+k*3+1,none⟩) (hO b1 hb1l)).trans (hc1 1 _ rfl);have a2:=(World.cell?_of_block (a:=⟨b1,o1+k*3+2,none⟩) (hO b1 hb1l)).trans (hc1 2 _ rfl);have d0:=(World.cell?_of_block (a:=⟨b2,o2+k*1+0,none⟩) (hO b2 hb2l)).trans (hc2 0 _ rfl);have e0:=(World.cell?_of_block (a:=⟨b3,o3+k*1+0,none⟩) (hO b3 hb3l)).trans (hc3 0 _ rfl);have g0:=(World.cell?_of_block (a:=⟨b0,off0+(k+1)*3+0,none⟩) (hO b0 hb4l)).trans (hc4 0 _ rfl);have g1:=(World.cell?_of_block (a:=⟨b0,off0+(k+1)*3+1,none⟩) (hO b0 hb4l)).trans (hc4 1 _ rfl);have g2:=(World.cell?_of_block (a:=⟨b0,off0+(k+1)*3+2,none⟩) (hO b0 hb4l)).trans (hc4 2 _ rfl);simp only [Nat.add_zero,Nat.mul_one] at a0 d0 e0 g0;go_simp;try (with_reducible rfl))
   simp only [Act.put,sT,sZ,sS];refine zmU (i:=20) (n0:=27) (p:=[]) (oi:=⟨_,_,_,_,_,_⟩) (v:=?_) rfl (by kernel_rfl) (by kernel_rfl) (by kernel_rfl) (by kernel_rfl) (by kernel_rfl) (fun _ _ _ h=>h) ⟨by rfl,?_⟩ hH ?_;rotate_left
   ·(intro w hSw;go_simp;try (with_reducible rfl))
   simp only [Act.put,sT,sZ,sS];refine zmU (i:=21) (n0:=27) (p:=[]) (oi:=⟨_,_,_,_,_,_⟩) (v:=?_) rfl (by kernel_rfl) (by kernel_rfl) (by kernel_rfl) (by kernel_rfl) (by kernel_rfl) (fun _ _ _ h=>h) ⟨by rfl,?_⟩ hH ?_;rotate_left
   ·(intro w hSw;go_simp;try (with_reducible rfl))
   simp only [Act.put,sT,sZ,sS];refine zmU (i:=22) (n0:=27) (p:=[]) (oi:=⟨_,_,_,_,_,_⟩) (v:=?_) rfl (by kernel_rfl) (by kernel_rfl) (by kernel_rfl) (by kernel_rfl) (by kernel_rfl) (fun _ _ _ h=>h) ⟨by rfl,?_⟩ hH ?_;rotate_left
   ·(intro w hSw;obtain ⟨⟨hT,hO⟩,hG⟩:=hSw;obtain ⟨p0,p1,p2,p3⟩:=hT.cells4;obtain ⟨r0,r1,r2,r3,r4,r5⟩:=hG.cells6;have a0:=(World.cell?_of_block (a:=⟨b1,o1+k*3+0,none⟩) (hO b1 hb1l)).trans (hc1 0 _ rfl);have a1:=(World.cell?_of_block (a:=⟨b1,o1+k*3+1,none⟩) (hO b1 hb1l)).trans (hc1 1 _ rfl);have a2:=(World.cell?_of_block (a:=⟨b1,o1+k*3+2,none⟩) (hO b1 hb1l)).trans (hc1 2 _ rfl);have d0:=(World.cell?_of_block (a:=⟨b2,o2+k*1+0,none⟩) (hO b2 hb2l)).trans (hc2 0 _ rfl);have e0:=(World.cell?_of_block (a:=⟨b3,o3+k*1+0,none⟩) (hO b3 hb3l)).trans (hc3 0 _ rfl);have g0:=(World.cell?_of_block (a:=⟨b0,off0+(k+1)*3+0,none⟩) (hO b0 hb4l)).trans (hc4 0 _ rfl);have g1:=(World.cell?_of_block (a:=⟨b0,off0+(k+1)*3+1,none⟩) (hO b0 hb4l)).trans (hc4 1 _ rfl);have g2:=(World.cell?_of_block (a:=⟨b0,off0+(k+1)*3+2,none⟩) (hO b0 hb4l)).trans (hc4 2 _ rfl);simp only [Nat.add_zero,Nat.mul_one] at a0 d0 e0 g0;go_simp;try (with_reducible rfl))
   simp only [Act.put,sT,sZ,sS];refine zmU (i:=23) (n0:=27) (p:=[]) (oi:=⟨_,_,_,_,_,_⟩) (v:=?_) rfl (by kernel_rfl) (by kernel_rfl) (by kernel_rfl) (by kernel_rfl) (by kernel_rfl) (fun _ _ _ h=>h) ⟨by rfl,?_⟩ hH ?_;rotate_left
   ·(intro w hSw;go_simp;try (with_reducible rfl))
   simp only [Act.put,sT,sZ,sS];refine zmV (rs:=[24]) (by kernel_rfl) (by simp) ?_;refine zmT.cons (o:=⟨_,_,_,_,_,_⟩) rfl (fun K hK=>?_) zmT.nil
   go_simp
   have hc:=zAE Wd (.cells #[.bool y.h.neg,.slice yH yhn yhc,.int .i64 y.h.e,.slice yT ytn ytc,.slice yA yn yc,.slice yB ym yd,.slice yC yp yq,.slice yV yvn yvc] 86);have HNB:Hid (Blk (Wd.alloc (.cells #[.bool y.h.neg,.slice yH yhn yhc,.int .i64 y.h.e,.slice yT ytn ytc,.slice yA yn yc,.slice yB ym yd,.slice yC yp yq,.slice yV yvn yvc] 86)) Wd.heap.size 86 #[.bool y.h.neg,.slice yH yhn yhc,.int .i64 y.h.e,.slice yT ytn ytc,.slice yA yn yc,.slice yB ym yd,.slice yC yp yq,.slice yV yvn yvc]):=Blk.new _ _ _;have hz:(Wd.alloc (.cells #[.bool y.h.neg,.slice yH yhn yhc,.int .i64 y.h.e,.slice yT ytn ytc,.slice yA yn yc,.slice yB ym yd,.slice yC yp yq,.slice yV yvn yvc] 86)).heap.size=Wd.heap.size+1:=by simp
   have hz1:=Ys hz;have hH2:(fun W=>(Blk W w.heap.size 36 #[.slice (some ⟨b0,off0,none⟩) (s+1) c,.slice (some ⟨b3,o3,none⟩) s d,.slice (some ⟨b2,o2,none⟩) s r,.slice (some ⟨b1,o1,none⟩) s z]/\∀b,b<w.heap.size->W.heap[b]? = w.heap[b]?)/\Blk W (w.heap.size+1+1) 29 #[.int .i64 p,.int .i64 o,.slice FA fn fc,.slice FB fm fd,.slice FC fp fq,v]) (Wd.alloc (.cells #[.bool y.h.neg,.slice yH yhn yhc,.int .i64 y.h.e,.slice yT ytn ytc,.slice yA yn yc,.slice yB ym yd,.slice yC yp yq,.slice yV yvn yvc] 86)):=⟨⟨hH.1.1.next hc,fun b hb=>(hc.block b (by omega)).trans (hH.1.2 b hb)⟩,hH.2.next hc⟩;refine hK.out _ _ (fun _=>hH2) ?_;clear hK K;have HA2:=Zh (HA1.out.below (by omega) hc);have HK2:=Zh (HK1.out.trans (KR.of hc));clear hc hz hH;generalize (Wd.alloc (.cells #[.bool y.h.neg,.slice yH yhn yhc,.int .i64 y.h.e,.slice yT ytn ytc,.slice yA yn yc,.slice yB ym yd,.slice yC yp yq,.slice yV yvn yvc] 86))=Wz at *;refine zmV (rs:=[25]) (by kernel_rfl) (by simp) ?_;refine zmT.cons (o:=⟨_,_,_,_,_,_⟩) rfl (fun K hK=>?_) zmT.nil;refine zmW rfl _ _ 27 rfl 86 8 160 _ zSV rfl (by omega) (by omega) Tryz.underlying27 W0.heap.size v fs rfl HA2.out.own ⟨Wd.heap.size,0,none⟩ 1 [.bool y.h.neg,.slice yH yhn yhc,.int .i64 y.h.e,.slice yT ytn ytc,.slice yA yn yc,.slice yB ym yd,.slice yC yp yq,.slice yV yvn yvc] rfl rfl ?c1 ?c2 ?c3 ?c4 ?_
   case c1=>
    intro j u hj;rw [zEM,Blk.cell HNB.out]
    simpa using hj
   case c2=>intro u hu;simp at hu;rcases hu with rfl | rfl | rfl | rfl | rfl | rfl | rfl | rfl <;> rfl
   case c3=>omega
   case c4=>exact Yq hwr (Yq hsd (by have:=HNB.out.lt;omega))
   intro v' w3 q2 q3 q5;have hzl:=HNB.out.lt;have hov:∀b,b<W0.heap.size->b<Wz.heap.size->w3.heap[b]? = Wz.heap[b]?:=fun b hb hb2=>q3.block b hb2 (fun e=>by have:=(HA2.out.lt b e.symm).1;omega)
   have HA3:=Zh (HA2.out.next (by omega) q2 q3 rfl (HRL.out.move (fun b hb=>hH2.1.2 b hb)));have hH3:(fun W=>(Blk W w.heap.size 36 #[.slice (some ⟨b0,off0,none⟩) (s+1) c,.slice (some ⟨b3,o3,none⟩) s d,.slice (some ⟨b2,o2,none⟩) s r,.slice (some ⟨b1,o1,none⟩) s z]/\∀b,b<w.heap.size->W.heap[b]? = w.heap[b]?)/\Blk W (w.heap.size+1+1) 29 #[.int .i64 p,.int .i64 o,.slice FA fn fc,.slice FB fm fd,.slice FC fp fq,v]) w3:=⟨⟨(hov _ (by omega) (by omega)).trans hH2.1.1,fun b hb=>(hov b (by omega) (by omega)).trans (hH2.1.2 b hb)⟩,(hov _ (by omega) (by omega)).trans hH2.2⟩;have HK3:=Zh (HK2.out.thenB ((Yp W0.heap.size Wz).grown q3 (by omega) (fun k hk=>(HA2.out.lt k hk).1)));refine hK.out _ _ (fun _=>hH3) ?_;clear hK K hH2 hov;simp only [Act.put,sT,sZ,sS];have hH:=hH3;refine zmU (i:=26) (n0:=27) (p:=[]) (oi:=⟨_,_,_,_,_,_⟩) (v:=?_) rfl (by kernel_rfl) (by kernel_rfl) (by kernel_rfl) (by kernel_rfl) (by kernel_rfl) (fun _ _ _ h=>h) ⟨by rfl,?_⟩ hH ?_;rotate_left
   ·(intro w hSw;go_simp;try (with_reducible rfl))
   simp only [Act.put,sT,sZ,sS];refine zmV (rs:=[27]) (by kernel_rfl) (by simp) ?_;refine zmT.cons (o:=⟨_,_,_,_,_,_⟩) rfl (fun K hK=>?_) zmT.nil;have hG3:=hH3.2;obtain ⟨vA,vn,vlc,rfl⟩:=zED HA3.out.own;obtain ⟨r0,r1,r2,r3,r4,r5⟩:=hG3.cells6;have f5:=hG3.frozen 5
   go_simp
   clear r0 r1 r2 r3 r4 r5 f5;refine hK.out _ _ (fun h=>absurd h (by decide)) ?_;clear hK K;have HG4:Hid (Blk (w3.setCell ⟨w.heap.size+1+1,5,none⟩ (.slice vA vn vlc)) (w.heap.size+1+1) 29 #[.int .i64 p,.int .i64 o,.slice FA fn fc,.slice FB fm fd,.slice FC fp fq,.slice vA vn vlc]):=hG3.set_ 5 (.slice vA vn vlc);have HA4:=Zh (HA3.out.keep (w':=(w3.setCell ⟨w.heap.size+1+1,5,none⟩ (.slice vA vn vlc))) (fun b hb=>Yl _ _ _ _ (by show b≠w.heap.size+1+1;omega)) (fun b hb _ _=>Yl _ _ _ _ (by show b≠w.heap.size+1+1;omega)));have HK4:=Zh (HK3.out.trans (KR.set 5 (.slice vA vn vlc)));clear hG3 hH hH3;generalize (w3.setCell ⟨w.heap.size+1+1,5,none⟩ (.slice vA vn vlc))=w4 at *;refine zmi (by kernel_rfl) ?_ _;go_wp2_with fail
   go_roundw
   case rel=>exact ⟨k+1,_,_,by omega,by go_num,by unfold Hid;rw [HTK.out];exact HA4.out,HG4,HK4⟩
   case measure=>simp [intOf];omega
  ·obtain rfl:s=k:=by omega
   have hmn:x.links.take s=x.links:=Xd (by rw [HN.out];exact Ya _);have hA:=HA.out;rw [hmn] at hA;obtain ⟨LA,lc,rfl,hsl⟩:=hA.sl (by omega);have HRC:Hid (∀W,Below wr.heap.size wr W->RC W [.int .i64 p,.int .i64 o,.slice FA fn fc,.slice FB fm fd,.slice FC fp fq,.slice LA x.links.length lc] { x with prec:=p,order:=o }):=fun W hb=>
    have hst:=HST.out W (HBR.out.trans (hb.mono HBR.out.size))
    ⟨FA,fn,fc,FB,fm,fd,FC,fp,fq,LA,_,lc,rfl,hst.1,hst.2.1,hst.2.2,hsl.next zBt hb⟩
   have kr:=HK.out.blk HKR.out (by omega);have HKr:=Zh kr;have HGr:=Zh HG.out;obtain ⟨t0,t1,t2,t3,t4,t5⟩:=HG.out.cells6;clear hA hmn hsl kr;go_wp2_with fail
   refine (H1.out _ wr (HRC.out wr (Yp _ _)) HBR.out).mono ?_;rintro e w1 ⟨rfl,hb1⟩
   clear t0 t1 t2 t3 t4 t5;have hs1:=hb1.size;cases cv
   ·have HP1:Hid (PP=(zC0,1)):=by unfold Hid;rw [HPP.out,if_neg (by rw [HCV.out];decide)]
    obtain ⟨r0,r1,r2,r3,r4,r5⟩:=(HKr.out.next hb1).cells6;have f0:=(HKr.out.next hb1).frozen 0;have f1:=(HKr.out.next hb1).frozen 1;have f2:=(HKr.out.next hb1).frozen 2;have f3:=(HKr.out.next hb1).frozen 3;have f4:=(HKr.out.next hb1).frozen 4;have f5:=(HKr.out.next hb1).frozen 5;have HRR:=Zh (HKr.out.next hb1);have HBB9:=Zh (HBR.out.trans (hb1.mono HBR.out.size));go_wp2_with fail
    refine Yn (zBL Tryz.results11 rfl (HRR.out.set6 _ _ _ _ _ _)) rfl ?_;rw [HP1.out];exact ⟨_,rfl,rfl,zA3 _,zAS HBB9.out (by omega) _ _ _ _ _ _⟩
   obtain ⟨t0,t1,t2,t3,t4,t5⟩:=(HGr.out.next hb1).cells6;go_wp2_with fail
   refine (H4.out HCV.out _ w1 (HRC.out w1 hb1)).mono ?_;rintro e w2 ⟨us,M,Ts,Rs,rfl,hu6,hm,hML,hold,hb2⟩
   clear t0 t1 t2 t3 t4 t5 hu6 hML;have HP1:Hid (PP=({ x with prec:=p,order:=o },0)):=by unfold Hid;rw [HPP.out,if_pos HCV.out]
   obtain ⟨A',n',c',B',m',d',C',p',q',L',ln',lc',rfl,hon,hlk⟩:=hm.cells;have hrb:=hold (w.heap.size+1) (by omega);have hs2:=hb2.size;have HR2:=Zh ((HKr.out.next hb1).next hb2);obtain ⟨r0,r1,r2,r3,r4,r5⟩:=HR2.out.cells6;have f0:=HR2.out.frozen 0;have f1:=HR2.out.frozen 1;have f2:=HR2.out.frozen 2;have f3:=HR2.out.frozen 3;have f4:=HR2.out.frozen 4;have f5:=HR2.out.frozen 5;have HBB:=Zh (HBR.out.trans ((zAA hb1 hb2).mono HBR.out.size));have HON:=Zh hon;have HLK:=Zh hlk;have HRB:=Zh hrb;clear hm hold hon hlk hrb hb1 hb2;go_wp2_with fail
   refine Yn (zBL Tryz.results11 rfl (HR2.out.set6 _ _ _ _ _ _)) rfl ?_;rw [HP1.out];have hmv:∀b,b≠w.heap.size+1->((((((w2.setCell ⟨w.heap.size+1,0,none⟩ (.int .i64 p)).setCell ⟨w.heap.size+1,1,none⟩ (.int .i64 o)).setCell ⟨w.heap.size+1,2,none⟩ (.slice A' n' c')).setCell ⟨w.heap.size+1,3,none⟩ (.slice B' m' d')).setCell ⟨w.heap.size+1,4,none⟩ (.slice C' p' q')).setCell ⟨w.heap.size+1,5,none⟩ (.slice L' ln' lc')).heap[b]? = w2.heap[b]?:=fun b hb=>zBy hb _ _ _ _ _ _
   have hse:((((((w2.setCell ⟨w.heap.size+1,0,none⟩ (.int .i64 p)).setCell ⟨w.heap.size+1,1,none⟩ (.int .i64 o)).setCell ⟨w.heap.size+1,2,none⟩ (.slice A' n' c')).setCell ⟨w.heap.size+1,3,none⟩ (.slice B' m' d')).setCell ⟨w.heap.size+1,4,none⟩ (.slice C' p' q')).setCell ⟨w.heap.size+1,5,none⟩ (.slice L' ln' lc')).heap.size=w2.heap.size:=zBz _ _ _ _ _ _;have hbe:=zAS HBB.out (show w.heap.size<=w.heap.size+1 by omega) (.int .i64 p) (.int .i64 o) (.slice A' n' c') (.slice B' m' d') (.slice C' p' q') (.slice L' ln' lc');generalize ((((((w2.setCell ⟨w.heap.size+1,0,none⟩ (.int .i64 p)).setCell ⟨w.heap.size+1,1,none⟩ (.int .i64 o)).setCell ⟨w.heap.size+1,2,none⟩ (.slice A' n' c')).setCell ⟨w.heap.size+1,3,none⟩ (.slice B' m' d')).setCell ⟨w.heap.size+1,4,none⟩ (.slice C' p' q')).setCell ⟨w.heap.size+1,5,none⟩ (.slice L' ln' lc'))=WE at *;have hon2:=(HON.out.move (fun b hb=>hmv b (fun e=>hb.2 (e ▸ HRB.out.1)))).here (Ys hse.symm);have hlk2:=HLK.out.keep (w':=WE) (Ys hse.symm) (fun b hb ho=>hmv b (fun e=>by subst e;rcases ho with h | h;exact h HRB.out.1;exact HRB.out.2 h));exact ⟨_,rfl,rfl,⟨A',n',c',B',m',d',C',p',q',L',ln',lc',rfl,hon2.1,hon2.2.1,hon2.2.2,hlk2.sl⟩,hbe⟩
end Go.Proofs.YtchkfjgcbbbffaaGreatDoor
end
