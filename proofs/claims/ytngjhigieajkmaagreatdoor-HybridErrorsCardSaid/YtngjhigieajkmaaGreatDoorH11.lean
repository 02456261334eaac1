/- Bundle 11: what the law's walk stands on: Q18, Q19, Q20, Q21, Q22, Q23, Q24, Q25, Q26. -/
import Derived.LoopN
import Derived.Scope
import Derived.Test.YtngjhigieajkmaaGreatDoorH10
set_option maxRecDepth 100000
set_option maxHeartbeats 20000000
set_option linter.all false
noncomputable section
namespace Go.Proofs.YtngjhigieajkmaaGreatDoor
open Go.RowKit Pl
def zAv (H H2:Hp) (n:Nat) (r r2:RV):Prop:=∀v H1 n1,r=.ok v H1 n1->H1=H/\n1=n/\r2=.ok v H2 n
def zBX (H H2:Hp) (n:Nat) (r r2:RV):Prop:=∀v H1 n1,r=.ok v H1 n1->∃blk,H1=(n,blk)::H/\n1=n+1/\r2=.ok v ((n,blk)::H2) (n+1)
section
variable {H H2:Hp}{n:Nat}{E:Env}
theorem zAv.fail (r:RV):zAv H H2 n .fail r:=fun _ _ _ e=>by cases e
theorem zAv.same (v:AV):zAv H H2 n (.ok v H n) (.ok v H2 n):=fun _ _ _ e=>by injection e with e1 e2 e3;subst e1 e2 e3;exact ⟨rfl,rfl,rfl⟩
theorem zAv.opt {α:Type}(o:Option α) (f f2:α->RV) (h:∀x,zAv H H2 n (f x) (f2 x)):zAv H H2 n (Option.rec .fail f o) (Option.rec .fail f2 o):=by cases o <;> first | exact zAv.fail _ | exact h _
theorem zAv.bool (t:Bool) (a b a2 b2:RV) (ha:zAv H H2 n a a2) (hb:zAv H H2 n b b2):zAv H H2 n (Bool.rec a b t) (Bool.rec a2 b2 t):=by cases t <;> assumption
theorem zAv.okv (x:Option AV):zAv H H2 n (okv x H n) (okv x H2 n):=zAv.opt x _ _ fun v=>zAv.same v
theorem zAv.withT {t:Nat}{f f2:TI->RV}(h:∀ti,zAv H H2 n (f ti) (f2 ti)):zAv H H2 n (withT E t f) (withT E t f2):=zAv.opt _ _ _ h
theorem zAv.elemT {t:Nat}{f f2:TI->RV}(h:∀ti,zAv H H2 n (f ti) (f2 ti)):zAv H H2 n (elemT E t f) (elemT E t f2):=zAv.withT fun ti=>by
 cases ti.c <;> first | exact zAv.fail _ | exact zAv.withT h
theorem zBX.fail (r:RV):zBX H H2 n .fail r:=fun _ _ _ e=>by cases e
theorem zBX.new (v:AV) (b:HB):zBX H H2 n (.ok v ((n,b)::H) (Nat.succ n)) (.ok v ((n,b)::H2) (Nat.succ n)):=fun _ _ _ e=>by injection e with e1 e2 e3;subst e1 e2 e3;exact ⟨b,rfl,rfl,rfl⟩
theorem zBX.opt {α:Type}(o:Option α) (f f2:α->RV) (h:∀x,zBX H H2 n (f x) (f2 x)):zBX H H2 n (Option.rec .fail f o) (Option.rec .fail f2 o):=by cases o <;> first | exact zBX.fail _ | exact h _
theorem zBX.bool (t:Bool) (a b a2 b2:RV) (ha:zBX H H2 n a a2) (hb:zBX H H2 n b b2):zBX H H2 n (Bool.rec a b t) (Bool.rec a2 b2 t):=by cases t <;> assumption
theorem zBX.withT {t:Nat}{f f2:TI->RV}(h:∀ti,zBX H H2 n (f ti) (f2 ti)):zBX H H2 n (withT E t f) (withT E t f2):=zBX.opt _ _ _ h
theorem zBX.elemT {t:Nat}{f f2:TI->RV}(h:∀ti,zBX H H2 n (f ti) (f2 ti)):zBX H H2 n (elemT E t f) (elemT E t f2):=zBX.withT fun ti=>by
 cases ti.c <;> first | exact zBX.fail _ | exact zBX.withT h
end
theorem zCK {p:Prop}(h:p:=by repeat (first
 | exact zAv.fail _ | exact zAv.same _ | exact zAv.okv _
 | refine zAv.withT fun _=>?_ | refine zAv.elemT fun _=>?_
 | refine zAv.bool _ _ _ _ _ ?_ ?_ | refine zAv.opt _ _ _ fun _=>?_ | split | dsimp only)):p:=h
section
variable {E:Env}{call:zAr}{T:Tm}{H H2:Hp}{n:Nat}
theorem zGn {o:Op}(hk:zAe o=0):zAv H H2 n (zFY o E call T H n) (zFY o E call T H2 n):=by
 cases o
 case move=>exact zAv.same _
 case assign=>exact zAv.same _
 case pick=>show zAv H H2 n (zKb _ _ _ E call T H n) (zKb _ _ _ E call T H2 n);unfold zKb;exact zCK
 case build=>show zAv H H2 n (zHO _ _ E call T H n) (zHO _ _ E call T H2 n);unfold zHO;exact zCK
 case nilCheck=>show zAv H H2 n (zRu _ E call T H n) (zRu _ E call T H2 n);unfold zRu;exact zCK
 case binOp a b c d e=>show zAv H H2 n (zTb a b c d e E call T H n) (zTb a b c d e E call T H2 n);unfold zTb;exact zCK
 case unOp a b c=>show zAv H H2 n (xUn a b c E call T H n) (xUn a b c E call T H2 n);unfold xUn;exact zCK
 case convert=>show zAv H H2 n (zLT _ _ _ E call T H n) (zLT _ _ _ E call T H2 n);unfold zLT;exact zCK
 case makeInterface t x=>show zAv H H2 n (zra t x E call T H n) (zra t x E call T H2 n);unfold zra;exact zCK
 case makeFunc=>show zAv H H2 n (zKa _ _ _ E call T H n) (zKa _ _ _ E call T H2 n);unfold zKa;exact zCK
 case slice=>show zAv H H2 n (zHR _ _ _ _ _ E call T H n) (zHR _ _ _ _ _ E call T H2 n);unfold zHR resl;exact zCK
 case fieldAddr=>show zAv H H2 n (zB7 _ _ _ E call T H n) (zB7 _ _ _ E call T H2 n);unfold zB7;exact zCK
 case field=>show zAv H H2 n (zHP _ _ _ E call T H n) (zHP _ _ _ E call T H2 n);unfold zHP;exact zCK
 case indexAddr=>show zAv H H2 n (zB8 _ _ _ E call T H n) (zB8 _ _ _ E call T H2 n);unfold zB8;exact zCK
 case index=>show zAv H H2 n (zHQ _ _ _ E call T H n) (zHQ _ _ _ E call T H2 n);unfold zHQ;exact zCK
 case extract=>show zAv H H2 n (zCs _ _ E call T H n) (zCs _ _ E call T H2 n);unfold zCs;exact zCK
 case call c=>
  obtain ⟨callee,args,ts⟩:=c;cases callee with
  | value=>cases hk
  | invoke=>cases hk
  | builtin b=>
   show zAv H H2 n (zDT b ts args E call T H n) (zDT b ts args E call T H2 n)
   cases b <;> first | (cases hk;done) | exact zAv.fail _ | skip
   ·show zAv H H2 n (zR7 E ts.toList (zE7 (zAf T) args.toList) H n) (zR7 E ts.toList (zE7 (zAf T) args.toList) H2 n);unfold zR7;exact zCK
   ·show zAv H H2 n (zR8 E ts.toList (zE7 (zAf T) args.toList) H n) (zR8 E ts.toList (zE7 (zAf T) args.toList) H2 n);unfold zR8;exact zCK
   ·show zAv H H2 n (zNN true (zE7 (zAf T) args.toList) H n) (zNN true (zE7 (zAf T) args.toList) H2 n);unfold zNN;exact zCK
   ·show zAv H H2 n (zNN false (zE7 (zAf T) args.toList) H n) (zNN false (zE7 (zAf T) args.toList) H2 n);unfold zNN;exact zCK
 all_goals first | (cases hk;done) | exact zAv.fail _
theorem zJx {p:Prop}(h:p:=by repeat (first
 | exact zBX.fail _ | exact zBX.new _ _
 | refine zBX.withT fun _=>?_ | refine zBX.elemT fun _=>?_
 | refine zBX.bool _ _ _ _ _ ?_ ?_ | refine zBX.opt _ _ _ fun _=>?_ | split | dsimp only)):p:=h
theorem zJf {o:Op}(hk:zAe o=2):zBX H H2 n (zFY o E call T H n) (zFY o E call T H2 n):=by
 cases o
 case alloc=>show zBX H H2 n (zHN _ E call T H n) (zHN _ E call T H2 n);unfold zHN zTj;exact zJx
 case box t x=>show zBX H H2 n (zRt t x E call T H n) (zRt t x E call T H2 n);unfold zRt zTj;exact zJx
 case buildSlice=>show zBX H H2 n (zBv _ _ _ E call T H n) (zBv _ _ _ E call T H2 n);unfold zBv;exact zJx
 case makeMap t r=>show zBX H H2 n (zCt t r E call T H n) (zCt t r E call T H2 n);unfold zCt;exact zJx
 case makeSlice=>show zBX H H2 n (zLU _ _ _ E call T H n) (zLU _ _ _ E call T H2 n);unfold zLU;exact zJx
 case call c=>
  obtain ⟨callee,args,ts⟩:=c;cases callee with
  | value=>cases hk
  | invoke=>cases hk
  | builtin b=>cases b <;> cases hk
 all_goals first | (cases hk;done) | exact zBX.fail _
def zRz (E:Env) (call:zAr) (o:Op) (T:Tm) (H:Hp) (n:Nat) (v:AV):Prop:=
 (∀H2,zFY o E call T H2 n=.ok v H2 n)\/
 ∃x∈o.operands,∃id blk,((∃off,zAf T x=.ptr id off)\/zAf T x=.map id)/\hget H id=some blk/\∀H2,hget H2 id=some blk->zFY o E call T H2 n=.ok v H2 n
theorem zRd {x:Option AV}{v:AV}{H1:Hp}{n1:Nat}(h:okv x H n=.ok v H1 n1):x=some v/\H1=H/\n1=n:=by
 cases x with
 | none=>cases h
 | some y=>injection h with e1 e2 e3;subst e1 e2 e3;exact ⟨rfl,rfl,rfl⟩
theorem zEH {t:Nat}{f:TI->RV}{v:AV}{H1:Hp}{n1:Nat}(h:withT E t f=.ok v H1 n1):∃ti,PT.get none E.ti t=some ti/\f ti=.ok v H1 n1:=by
 unfold withT at h;cases e:PT.get none E.ti t with
 | none=>rw [e] at h;cases h
 | some ti=>rw [e] at h;exact ⟨ti,rfl,h⟩
theorem zEz {o:Op}(hk:zAe o=1) {v:AV}{H1:Hp}{n1:Nat}(h:zFY o E call T H n=.ok v H1 n1):H1=H/\n1=n/\zRz E call o T H n v:=by
 cases o
 case load t x=>
  change zHe t x E call T H n=_ at h
  obtain ⟨ti,hti,h⟩:=zEH h;obtain ⟨h1,rfl,rfl⟩:=zRd h;refine ⟨rfl,rfl,?_⟩;have back:∀H2,loadAt H2 (zAf T x) (zC6 ti.c) ti.size=some v->zFY (.load t x) E call T H2 n1=.ok v H2 n1:=by
   intro H2 h2
   show zHe t x E call T H2 n1=_
   unfold zHe withT;rw [hti]
   show okv (loadAt H2 (zAf T x) (zC6 ti.c) ti.size) H2 n1=_
   rw [h2];rfl
  unfold loadAt at h1
  split at h1
  ·rename_i id off e
   split at h1
   ·rename_i cs ecs
    refine .inr ⟨x,by simp [Op.operands],id,.cells cs,.inl ⟨off,e⟩,ecs,fun H2 h2=>back H2 ?_⟩;rw [e];unfold loadAt;simp only [h2];exact h1
   ·cases h1
  ·rename_i cs e
   refine .inl fun H2=>back H2 ?_
   rw [e];exact h1
  ·cases h1
 case lookup t m k ok=>
  change zDx t m k ok E call T H n=_ at h
  have key:∀f:Nat->RV,keyT E t (zAf T k) f=.ok v H1 n1->∃e,f e=.ok v H1 n1/\∀f2:Nat->RV,keyT E t (zAf T k) f2=f2 e:=by
   intro f hf;obtain ⟨ti,hti,hf⟩:=zEH hf
   split at hf
   ·rename_i kt e hce
    obtain ⟨tk,htk,hf⟩:=zEH hf
    split at hf
    ·rename_i hck hx
     refine ⟨e,hf,fun f2=>?_⟩;unfold keyT withT;simp only [hti,hce,htk,hck];rw [hx]
    ·rename_i hck hx
     refine ⟨e,hf,fun f2=>?_⟩;unfold keyT withT;simp only [hti,hce,htk,hck];rw [hx]
    ·rename_i fs cs hck hx
     cases hb:Bool.and tk.eq (Nat.beq (zJK cs) tk.size)
     ·rw [hb] at hf;cases hf
     ·rw [hb] at hf
      refine ⟨e,hf,fun f2=>?_⟩;unfold keyT withT;simp only [hti,hce,htk,hck];rw [hx];simp only [hb]
    ·cases hf
   ·cases hf
  obtain ⟨e,h1,h2⟩:=key _ h
  split at h1
  ·rename_i id em
   split at h1
   ·rename_i es ees
    cases hfk:findKey (zAf T k) es with
    | none=>rw [hfk] at h1;cases h1
    | some r=>
     rw [hfk] at h1;have fin:H1=H/\n1=n:=by
      cases r with
      | none=>
       obtain ⟨te,_,h1⟩:=zEH h1;cases hz:zIM te with
       | none=>rw [hz] at h1;cases h1
       | some z=>rw [hz] at h1;injection h1 with _ e2 e3;exact ⟨e2.symm,e3.symm⟩
      | some u=>injection h1 with _ e2 e3;exact ⟨e2.symm,e3.symm⟩
     obtain ⟨rfl,rfl⟩:=fin;refine ⟨rfl,rfl,.inr ⟨m,by simp [Op.operands],id,.map es,.inr em,ees,fun H2 hg=>?_⟩⟩
     show zDx t m k ok E call T H2 n1=_
     unfold zDx;rw [h2,em];simp only [hg,hfk];cases r with
     | none=>
      obtain ⟨te,hte,h1⟩:=zEH h1;unfold withT;rw [hte];dsimp only;cases hz:zIM te with
      | none=>rw [hz] at h1;cases h1
      | some z=>rw [hz] at h1;injection h1 with e1 e2 e3;rw [<- e1]
     | some u=>injection h1 with e1 e2 e3;rw [<- e1]
   ·cases h1
  ·cases h1
 case call c=>
  obtain ⟨callee,args,ts⟩:=c;cases callee with
  | value=>cases hk
  | invoke=>cases hk
  | builtin b=>cases b <;> cases hk
 all_goals (cases hk)
end
abbrev St:=Tm×Hp×Nat
def zR2 (E:Env) (call:zAr) (l:List Oper) (o:Oper) (s s':St):Prop:=
 (zBj l s.1 o.guard=some true/\∃v,zFY o.op E call s.1 s.2.1 s.2.2=.ok v s'.2.1 s'.2.2/\s'.1=put s.1 o.dst v)\/
 (zBj l s.1 o.guard=some false/\s'.1=put s.1 o.dst (.v undef)/\s'.2.1=s.2.1/\s'.2.2=s.2.2)
section
variable {E:Env}{call:zAr}{l:List Oper}
theorem zMl:∀ (os:List Oper) (i:Nat) (sn:List (Nat×Hp×Hp)) (T:Tm) (H:Hp) (n:Nat) (x:Ex) (T':Tm) (H':Hp) (n':Nat),zEx E call l os i sn T H n=.ok x T' H' n'->
  ∃st:Nat->St,∃sf:List (Nat×Hp×Hp),st 0=(T,H,n)/\st os.length=(T',H',n')/\(∀ (j:Nat) (o:Oper),os[j]? = some o->zR2 E call l o (st j) (st (j+1)))/\(∀p∈zF8 l,zBa E l T' sf p=true)/\
   (∀s∈sn,s∈sf)/\∀ (j:Nat) (o:Oper),os[j]? = some o->zAe o.op=3->(i+j,(st j).2.1,(st (j+1)).2.1)∈sf:=by
 intro os
 induction os with
 | nil=>
  intro i sn T H n x T' H' n' h;rw [zD5] at h;have key:∀ (ps:List (Nat×Nat)),(List.rec (motive:=fun _=>Bool) true (fun p _ ih=>Bool.rec false ih (zBa E l T sn p)) ps:Bool)=true->∀p∈ps,zBa E l T sn p=true:=by
   intro ps
   induction ps with
   | nil=>intro _ p hp;cases hp
   | cons q ps ih=>
    intro h p hp
    change (Bool.rec false (List.rec (motive:=fun _=>Bool) true (fun p _ ih=>Bool.rec false ih (zBa E l T sn p)) ps) (zBa E l T sn q):Bool)=true at h
    cases hq:zBa E l T sn q
    ·rw [hq] at h;cases h
    ·rw [hq] at h
     cases hp with
     | head=>exact hq
     | tail _ hp=>exact ih h p hp
  cases ht:(List.rec (motive:=fun _=>Bool) true (fun p _ ih=>Bool.rec false ih (zBa E l T sn p)) (zF8 l):Bool)
  ·rw [ht] at h;cases h
  ·rw [ht] at h
   injection h with h1 h2 h3 h4
   subst h1 h2 h3 h4;exact ⟨fun _=>(T,H,n),sn,rfl,rfl,fun j o e=>by simp at e,key _ ht,fun s hs=>hs,fun j o e=>by simp at e⟩
 | cons o os ih=>
  intro i sn T H n x T' H' n' h;rw [zDK] at h;obtain ⟨T1,H1,n1,h1,h2⟩:=zB5 h;obtain ⟨st,sf,e0,eN,hs,hl,hsub,hin⟩:=ih _ _ _ _ _ _ _ _ _ h1;refine ⟨fun k=>match k with | 0=>(T,H,n) | k+1=>st k,sf,rfl,eN,fun j o' e=>?_,hl,fun s hs'=>hsub s ?_,fun j o' e hk=>?_⟩
  ·cases j with
   | zero=>
    simp at e;subst e
    show zR2 E call l o (T,H,n) (st 0)
    rw [e0];exact h2
   | succ j=>exact hs j o' (by simpa using e)
  ·cases Nat.beq (zAe o.op) 3
   ·exact hs'
   ·exact List.mem_cons_of_mem _ hs'
  ·cases j with
   | zero=>
    simp at e;subst e;refine hsub _ ?_;have:Nat.beq (zAe o.op) 3=true:=by rw [hk];rfl
    rw [this]
    show (i+0,H,(st 0).2.1)∈(i,H,H1)::sn
    rw [e0];exact List.mem_cons_self
   | succ j=>
    have:=hin j o' (by simpa using e) hk;rw [show i+(j+1)=Nat.succ i+j by omega];exact this
theorem zFc (o:Op):zAe o=0\/zAe o=1\/zAe o=2\/zAe o=3:=by
 cases o
 case call c=>
  obtain ⟨callee,args,ts⟩:=c;cases callee with
  | builtin b=>cases b <;> simp [zAe]
  | _=>simp [zAe]
 all_goals simp [zAe]
structure Tr (E:Env) (call:zAr) (l:List Oper) (st:Nat->St):Prop where
 step:∀ (j:Nat) (o:Oper),l[j]? = some o->zR2 E call l o (st j) (st (j+1))
 mono:zBd call
 desc:zBc (st 0).2.2 (st 0).2.1
 stat:zWS l
variable {st:Nat->St}
theorem Tr.later1 (R:Tr E call l st) {j:Nat}(hj:j<l.length) (hD:zBc (st j).2.2 (st j).2.1):zCG (st j).2.2 (st j).2.1 (st (j+1)).2.2 (st (j+1)).2.1:=by
 rcases R.step j l[j] (by simp [hj]) with ⟨_,v,h,_⟩ | ⟨_,_,h1,h2⟩
 ·exact zOU R.mono _ hD _ _ _ h
 ·rw [h1,h2];exact zCG.refl hD
theorem Tr.later (R:Tr E call l st):∀ (d i:Nat),i+d<=l.length->zBc (st i).2.2 (st i).2.1->zCG (st i).2.2 (st i).2.1 (st (i+d)).2.2 (st (i+d)).2.1
 | 0,i,_,hD=>zCG.refl hD
 | d+1,i,h,hD=>by
  have h1:=R.later d i (by omega) hD;exact h1.trans (R.later1 (j:=i+d) (by omega) h1.desc)
theorem Tr.descAt (R:Tr E call l st) (i:Nat) (h:i<=l.length):zBc (st i).2.2 (st i).2.1:=by
 have:=(R.later i 0 (by omega) R.desc).desc
 rwa [Nat.zero_add] at this
theorem Tr.laterAt (R:Tr E call l st) {i j:Nat}(hij:i<=j) (hj:j<=l.length):zCG (st i).2.2 (st i).2.1 (st j).2.2 (st j).2.1:=by
 have:=R.later (j - i) i (by omega) (R.descAt i (by omega))
 rwa [show i+(j - i)=j by omega] at this
theorem Tr.tkeep (R:Tr E call l st) {t:Nat}:∀ (d i:Nat),i+d<=l.length->(∀ (k:Nat) (o:Oper),i<=k->k<i+d->l[k]? = some o->o.dst≠some t)->look (st (i+d)).1 t=look (st i).1 t
 | 0,i,_,_=>rfl
 | d+1,i,h,hk=>by
  rw [<- R.tkeep d i (by omega) fun k o h1 h2=>hk k o h1 (by omega)];have hj:i+d<l.length:=by omega
  have hne:=hk (i+d) l[i+d] (by omega) (by omega) (by simp [hj]);have:∀v,look (put (st (i+d)).1 (l[i+d]).dst v) t=look (st (i+d)).1 t:=by
   intro v;cases hd:(l[i+d]).dst with
   | none=>rfl
   | some d'=>
    rw [hd] at hne
    show Go.Proofs.YtngjhigieajkmaaGreatDoor.look ((d',v)::(st (i+d)).1) t=_
    rw [zBO,if_neg (fun e=>hne (by rw [e]))]
  rcases R.step (i+d) l[i+d] (by simp [hj]) with ⟨_,v,_,h1⟩ | ⟨_,h1,_⟩
  ·rw [show i+(d+1)=i+d+1 by omega,h1,this]
  ·rw [show i+(d+1)=i+d+1 by omega,h1,this]
theorem Tr.lookAt (R:Tr E call l st) {t i j:Nat}(hij:i<=j) (hj:j<=l.length) (hk:∀ (k:Nat) (o:Oper),i<=k->k<j->l[k]? = some o->o.dst≠some t):Go.Proofs.YtngjhigieajkmaaGreatDoor.look (st j).1 t=Go.Proofs.YtngjhigieajkmaaGreatDoor.look (st i).1 t:=by
 have:=R.tkeep (t:=t) (j - i) i (by omega) fun k o h1 h2=>hk k o h1 (by omega)
 rwa [show i+(j - i)=j by omega] at this
theorem Tr.quiet (R:Tr E call l st) {id:Nat}:∀ (d i:Nat),i+d<=l.length->id<(st i).2.2->(∀ (k:Nat) (o:Oper),i<=k->k<i+d->l[k]? = some o->zAe o.op≠3)->hget (st (i+d)).2.1 id=hget (st i).2.1 id
 | 0,i,_,_,_=>rfl
 | d+1,i,h,hid,hk=>by
  rw [<- R.quiet d i (by omega) hid fun k o h1 h2=>hk k o h1 (by omega)];have hj:i+d<l.length:=by omega
  have hne:=hk (i+d) l[i+d] (by omega) (by omega) (by simp [hj]);have hlt:id<(st (i+d)).2.2:=Yh hid (R.laterAt (i:=i) (j:=i+d) (by omega) (by omega)).le;rw [show i+(d+1)=i+d+1 by omega];rcases R.step (i+d) l[i+d] (by simp [hj]) with ⟨_,v,h1,_⟩ | ⟨_,_,h1,_⟩
  ·rcases zFc (l[i+d]).op with h0 | h0 | h0 | h0
   ·obtain ⟨h2,_,_⟩:=zGn (H2:=[]) h0 _ _ _ h1
    rw [h2]
   ·obtain ⟨h2,_,_⟩:=zEz h0 h1
    rw [h2]
   ·obtain ⟨blk,h2,_,_⟩:=zJf (H2:=[]) h0 _ _ _ h1
    rw [h2,zAY,if_neg (by omega)]
   ·exact absurd h0 hne
  ·rw [h1]
theorem Tr.quietAt (R:Tr E call l st) {id i j:Nat}(hij:i<=j) (hj:j<=l.length) (hid:id<(st i).2.2) (hk:∀ (k:Nat) (o:Oper),i<=k->k<j->l[k]? = some o->zAe o.op≠3):hget (st j).2.1 id=hget (st i).2.1 id:=by
 have:=R.quiet (id:=id) (j - i) i (by omega) hid fun k o h1 h2=>hk k o h1 (by omega)
 rwa [show i+(j - i)=j by omega] at this
end
theorem zPi {a b:Bool}(h:Bool.and a b=true):a=true/\b=true:=by cases a <;> cases b <;> simp_all
theorem zP7 {x y:Option Nat}(h:eqNat? x y=true):x=y:=by
 unfold eqNat? at h
 split at h
 ·rfl
 ·rw [Yg h]
 ·cases h
theorem zQv (x:Value) (y:AV):zKK (.v x) y=(match x,y with
   | .slice none 0 0,.v (.slice none 0 0)=>true
   | .pointer none,.v (.pointer none)=>true
   | .nilFunc,.v .nilFunc=>true
   | .string s,.v (.string s')=>s.data.toList == s'.data.toList
   | _,_=>false):=rfl
mutual
theorem zFE:∀ (x y:AV),zKK x y=true->x=y
 | .i k n,y,h=>by
  cases y <;> first | (cases h;done) | skip
  obtain ⟨h1,h2⟩:=zPi h;rw [zDl] at h2;rw [zFx h1,of_decide_eq_true h2]
 | .b t,y,h=>by
  cases y <;> first | (cases h;done) | skip
  rename_i t'
  cases t <;> cases t' <;> first | rfl | cases h
 | .v x,y,h=>by
  rw [zQv] at h
  split at h
  ·rfl
  ·rfl
  ·rfl
  ·rename_i s s'
   have:s.data.toList=s'.data.toList:=by simpa using h
   have h2:s.data=s'.data:=Array.ext' this;have:s=s':=by cases s;cases s';simp_all
   rw [this]
  ·cases h
 | .lim n,y,h=>by
  cases y <;> first | (cases h;done) | skip
  rw [Yg h]
 | .fsl c l,y,h=>by
  cases y <;> first | (cases h;done) | skip
  obtain ⟨h1,h2⟩:=zPi h;rw [Yg h1,zCZ c _ h2]
 | .fpt c,y,h=>by
  cases y <;> first | (cases h;done) | skip
  rw [zCZ c _ h]
 | .sl id off len k cap,y,h=>by
  cases y <;> first | (cases h;done) | skip
  obtain ⟨h1,h2⟩:=zPi h;obtain ⟨h3,h4⟩:=zPi h1;obtain ⟨h5,h6⟩:=zPi h2;obtain ⟨h7,h8⟩:=zPi h6;rw [Yg h3,Yg h4,Yg h5,Yg h7,zP7 h8]
 | .ptr id off,y,h=>by
  cases y <;> first | (cases h;done) | skip
  obtain ⟨h1,h2⟩:=zPi h;rw [Yg h1,Yg h2]
 | .map id,y,h=>by
  cases y <;> first | (cases h;done) | skip
  rw [Yg h]
 | .agg c,y,h=>by
  cases y <;> first | (cases h;done) | skip
  rw [zCZ c _ h]
 | .tup c,y,h=>by
  cases y <;> first | (cases h;done) | skip
  rw [zCZ c _ h]
 | .fn f c,y,h=>by
  cases y <;> first | (cases h;done) | skip
  obtain ⟨h1,h2⟩:=zPi h;rw [Yg h1,zCZ c _ h2]
 | .ifc t x,y,h=>by
  cases y <;> first | (cases h;done) | skip
  obtain ⟨h1,h2⟩:=zPi h;rw [Yg h1,zFE x _ h2]
 | .any,y,h=>by
  cases y <;> first | (cases h;done) | rfl
theorem zCZ:∀ (xs ys:List AV),(AV.rec_1 (motive_1:=fun _=>AV->Bool) (motive_2:=fun _=>List AV->Bool)
  (fun k n y=>match y with | .i k' n'=>Bool.and (Nat.beq (kc k) (kc k')) (eqI n n') | _=>false)
  (fun t y=>match y with | .b t'=>Bool.rec (Bool.not t') t' t | _=>false)
  (fun v y=>match v,y with
   | .slice none 0 0,.v (.slice none 0 0)=>true
   | .pointer none,.v (.pointer none)=>true
   | .nilFunc,.v .nilFunc=>true
   | .string s,.v (.string s')=>s.data.toList == s'.data.toList
   | _,_=>false)
  (fun n y=>match y with | .lim n'=>Nat.beq n n' | _=>false)
  (fun _ l ih y=>match y with | .fsl c' l'=>Bool.and (Nat.beq l l') (ih c') | _=>false)
  (fun _ ih y=>match y with | .fpt c'=>ih c' | _=>false)
  (fun id off len k cap y=>match y with | .sl id' off' len' k' cap'=>Bool.and (Bool.and (Nat.beq id id') (Nat.beq off off')) (Bool.and (Nat.beq len len') (Bool.and (Nat.beq k k') (eqNat? cap cap'))) | _=>false)
  (fun id off y=>match y with | .ptr id' off'=>Bool.and (Nat.beq id id') (Nat.beq off off') | _=>false)
  (fun id y=>match y with | .map id'=>Nat.beq id id' | _=>false)
  (fun _ ih y=>match y with | .agg c'=>ih c' | _=>false)
  (fun _ ih y=>match y with | .tup c'=>ih c' | _=>false)
  (fun f _ ih y=>match y with | .fn f' c'=>Bool.and (Nat.beq f f') (ih c') | _=>false)
  (fun t _ ih y=>match y with | .ifc t' x'=>Bool.and (Nat.beq t t') (ih x') | _=>false)
  (fun y=>match y with | .any=>true | _=>false)
  (fun ys=>match ys with | []=>true | _=>false)
  (fun _ _ ihx ihr ys=>match ys with | y::ys=>Bool.and (ihx y) (ihr ys) | []=>false) xs:List AV->Bool) ys=true->xs=ys
 | [],ys,h=>by cases ys <;> first | rfl | cases h
 | x::xs,[],h=>by cases h
 | x::xs,y::ys,h=>by
  obtain ⟨h1,h2⟩:=zPi h;rw [zFE x y h1,zCZ xs ys h2]
end
theorem zLl {p:Nat->Prop}(i j:Nat):(∀k,i<=k->k<j->¬ p k)\/∃c,i<=c/\c<j/\p c/\∀k,i<=k->k<c->¬ p k:=by
 by_cases h:∃c,i<=c/\c<j/\p c
 ·right
  obtain ⟨c,h1,h2,h3⟩:=h
  induction c using Nat.strongRecOn with
  | _ c ih=>
   by_cases h4:∃k,i<=k/\k<c/\p k
   ·obtain ⟨k,a1,a2,a3⟩:=h4
    exact ih k a2 a1 (by omega) a3
   ·exact ⟨c,h1,h2,h3,fun k a1 a2 a3=>h4 ⟨k,a1,a2,a3⟩⟩
 ·left
  exact fun k h1 h2 h3=>h ⟨k,h1,h2,h3⟩
section
variable {E:Env}{call:zAr}{l:List Oper}{st:Nat->St}
theorem zPq {a b c:Bool}(h:(Bool.rec a b c:Bool)=true):(c=false/\a=true)\/(c=true/\b=true):=by cases c <;> simp_all
theorem zM0 (R:Tr E call l st) {j c:Nat}{o oc:Oper}(ho:l[j]? = some o) (hk:zAe o.op=1) (hoc:l[c]? = some oc) (hkc:zAe oc.op=3) {sf:List (Nat×Hp×Hp)}
  (hl:zBa E l (st l.length).1 sf (j,c)=true) (hsf:(c,(st c).2.1,(st (c+1)).2.1)∈sf) (hg:zBj l (st j).1 o.guard=some true) {v:AV}{H1:Hp}{n1:Nat}(he:zFY o.op E call (st j).1 (st j).2.1 (st j).2.2=.ok v H1 n1) (hdst:(st (j+1)).1=put (st j).1 o.dst v) :
  ∃t x,o.op=.load t x/\∀id off,zAf (st j).1 x=.ptr id off->
   (j<=c->∃blk,hget (st (c+1)).2.1 id=some blk/\∀H2,hget H2 id=some blk->zFY o.op E call (st j).1 H2 (st j).2.2=.ok v H2 (st j).2.2)/\
   (c<j->∀blk,hget (st c).2.1 id=some blk->∀H2,hget H2 id=some blk->zFY o.op E call (st j).1 H2 (st j).2.2=.ok v H2 (st j).2.2):=by
 have hj:j<l.length:=(Yb.1 ho).1;have same:∀t∈zCC l o,look (st l.length).1 t=look (st j).1 t:=fun t ht=>
  R.lookAt (by omega) (Ya _) fun k p h1 h2 hp hd=>R.stat.late j o k p t ho hk hp h1 hd ht
 have hgF:zBj l (st l.length).1 o.guard=zBj l (st j).1 o.guard:=by
  cases hgu:o.guard with
  | none=>rfl
  | some q=>
   obtain ⟨g,want⟩:=q;unfold zBj;dsimp only;rw [zE9];cases hlg:l[g]? with
   | none=>rfl
   | some og=>
    dsimp only;cases hd:og.dst with
    | none=>rfl
    | some d=>
     dsimp only;rw [same d (by unfold zCC;rw [hgu];simp [hlg,hd])]
 unfold zBa at hl;rw [zE9,ho] at hl;dsimp only at hl;rw [hgF,hg] at hl;dsimp only at hl
 split at hl
 ·rename_i t x d hop hd
  refine ⟨t,x,hop,fun id off hx=>?_⟩;have hxF:zAf (st l.length).1 x=zAf (st j).1 x:=by
   cases x with
   | tmp k=>exact same k (by unfold zCC;rw [hop];simp [Op.operands])
   | _=>rfl
  have hvF:look (st l.length).1 d=v:=by
   rw [R.lookAt (i:=j+1) (by omega) (Ya _) fun k p h1 h2 hp hdk=>R.stat.once k p j o d hp ho (by omega) hd hdk,hdst,hd]
   show look ((d,v)::(st j).1) d=v
   rw [zBO,if_pos rfl]
  rw [hxF,hvF,hx] at hl;have each:∀s∈sf,s.1=c->(Bool.rec (zCz E true t (.ptr id off) v s.2.1) (zCz E false t (.ptr id off) v s.2.2) (Nat.ble j c):Bool)=true:=by
   clear hsf
   induction sf with
   | nil=>intro s hs;cases hs
   | cons s0 sf ih=>
    intro s hs hsc;have h2:=zPq (a:=(List.rec (motive:=fun _=>Bool) true (fun s _ ih=>Bool.rec ih (Bool.and (Bool.rec (zCz E true t (.ptr id off) v s.2.1) (zCz E false t (.ptr id off) v s.2.2) (Nat.ble j c)) ih) (Nat.beq s.1 c)) sf:Bool)) hl;rcases h2 with ⟨hn,hr⟩ | ⟨hy,hr⟩
    ·cases hs with
     | head=>rw [hsc] at hn;simp at hn
     | tail _ hs=>exact ih hr s hs hsc
    ·obtain ⟨h3,h4⟩:=zPi hr
     cases hs with
     | head=>exact h3
     | tail _ hs=>exact ih h4 s hs hsc
  have hread:=each _ hsf rfl;have use:∀ (ab:Bool) (Hx:Hp) (blk:HB),zCz E ab t (.ptr id off) v Hx=true->hget Hx id=some blk->∀H2,hget H2 id=some blk->zFY o.op E call (st j).1 H2 (st j).2.2=.ok v H2 (st j).2.2:=by
   intro ab Hx blk hr hb H2 h2;unfold zCz at hr;dsimp only at hr;rw [hb] at hr;dsimp only at hr;rw [hop]
   show zHe t x E call (st j).1 H2 (st j).2.2=_
   unfold zHe withT;cases hti:PT.get none E.ti t with
   | none=>rw [hti] at hr;cases hr
   | some ti=>
    rw [hti] at hr;dsimp only at hr ⊢;cases hla:loadAt Hx (.ptr id off) (zC6 ti.c) ti.size with
    | none=>rw [hla] at hr;cases hr
    | some u=>
     rw [hla] at hr;have:=zFE _ _ hr;subst this;rw [hx];have:loadAt H2 (.ptr id off) (zC6 ti.c) ti.size=some u:=by
      unfold loadAt at hla ⊢;simp only [h2];simp only [hb] at hla;exact hla
     rw [this];rfl
  constructor
  ·intro hjc
   rw [Nat.ble_eq_true_of_le hjc] at hread;cases hb:hget (st (c+1)).2.1 id with
   | none=>
    change zCz E false t (.ptr id off) v (st (c+1)).2.1=true at hread
    unfold zCz at hread;dsimp only at hread;rw [hb] at hread;cases hread
   | some blk=>exact ⟨blk,rfl,use false _ blk hread hb⟩
  ·intro hcj blk hb
   have:Nat.ble j c=false:=by
    cases hq:Nat.ble j c
    ·rfl
    ·have:=Ym hq;omega
   rw [this] at hread;exact use true _ blk hread hb
 ·cases hl
end
abbrev isL (listed:Array Bool) (i:Nat):Prop:=listed.getD i false=true
structure DI (G:Gl) (l:List Oper) (st:Nat->St) (ι0:Io) (fz0:Nat->Prop) (w0:World) (a0:Act) (h:Nat) (M:Nat->Option HB) (ι:Io) (fz:Nat->Prop) (listed:Array Bool) (a:Act) (w:World):Prop where
 size:listed.size=l.length
 closed:zNU l (isL listed)
 tsize:a.tmps.size=a0.tmps.size
 tdef:a.defers=a0.defers
 post:zB1 G ι0 fz0 (hget (st 0).2.1) (st 0).2.2 w0 ι fz M (st l.length).2.2 w
 hle:h<=l.length
 hk:∀ (c:Nat) (o:Oper),l[c]? = some o->zAe o.op=3->(isL listed c ↔ c<h)
 hlast:h=0\/∃ (c:Nat) (o:Oper),h=c+1/\l[c]? = some o/\zAe o.op=3
 mem:∀id x,hget (st h).2.1 id=some x->M id=some x
 made:∀i,h<=i->isL listed i->∀id x,(st i).2.2<=id->id<(st (i+1)).2.2->hget (st (i+1)).2.1 id=some x->M id=some x
 fresh:∀i,i<l.length->listed.getD i false=false->∀id,(st i).2.2<=id->id<(st (i+1)).2.2->ι id=none
 done:∀ (i:Nat) (o:Oper) (d:Nat),l[i]? = some o->isL listed i->o.dst=some d->Rel ι fz w (look (st (i+1)).1 d) (a.tmps.getD d undef)
 rest:∀t,(∀ (i:Nat) (o:Oper),l[i]? = some o->isL listed i->o.dst≠some t)->Rel ι fz w (look (st 0).1 t) (a.tmps.getD t undef)
theorem zB1.wide {G:Gl}{ι ι1:Io}{fz fz1:Nat->Prop}{M M1:Nat->Option HB}{n n1 m m1:Nat}{w w1:World}(h:zB1 G ι fz M n w ι1 fz1 M1 n1 w1) (h1:m<=n) (h2:n1<=m1):zB1 G ι fz M m w ι1 fz1 M1 m1 w1:=
 { h with out:=fun i hi=>h.out i (by omega) }
theorem zB1.chain {G:Gl}{ι ι1 ι2:Io}{fz fz1 fz2:Nat->Prop}{M M1 M2:Nat->Option HB}{n n1:Nat}{w w1 w2:World}(h:zB1 G ι fz M n w ι1 fz1 M1 n1 w1) (h':zB1 G ι1 fz1 M1 n w1 ι2 fz2 M2 n1 w2):zB1 G ι fz M n w ι2 fz2 M2 n1 w2 where
 ext i p e:=h'.ext i p (h.ext i p e)
 out i hi:=by rw [h'.out i hi,h.out i hi]
 fzm b hb:=h'.fzm b (h.fzm b hb)
 fzn b hb:=by
  rcases h'.fzn b hb with h1 | h1
  ·exact h.fzn b h1
  ·exact .inr (Yq h.size h1)
 size:=Yq h.size h'.size
 keep b hb hn:=by
  rw [h'.keep b (by have:=h.size;omega) (fun ht=>by
   rcases h.trk b ht with h1 | h1
   ·exact hn h1
   ·omega),h.keep b hb hn]
 os:=h'.os.trans h.os
 tape:=h'.tape.trans h.tape
 output:=h'.output.trans h.output
 trk b hb:=by
  rcases h'.trk b hb with h1 | h1
  ·exact h.trk b h1
  ·exact .inr (Yq h.size h1)
 inv:=h'.inv
theorem zEk {listed:Array Bool}{j i:Nat}(hj:j<listed.size):isL (listed.setIfInBounds j true) i ↔ i=j\/isL listed i:=by
 unfold isL;simp only [Array.getD_eq_getD_getElem?];by_cases h:i=j
 ·subst h
  simp [hj]
 ·rw [Xb (Ne.symm h)]
  simp [h]
section
variable {P:Program}{G:Gl}{E:Env}{call:zAr}{l:List Oper}{st:Nat->St}{ι0:Io}{fz0:Nat->Prop}{w0:World}{a0:Act}{h:Nat}{M:Nat->Option HB}{ι:Io}{fz:Nat->Prop}{listed:Array Bool}{a:Act}{w:World}
theorem DI.opnds (D:DI G l st ι0 fz0 w0 a0 h M ι fz listed a w) (R:Tr E call l st) {j:Nat}{o:Oper}(ho:l[j]? = some o) (hn:¬ isL listed j) (hr:∀e∈o.after.toList,bnd e=true->isL listed e.on) {t:Nat}(ht:t∈zCC l o) :
  Rel ι fz w (look (st j).1 t) (a.tmps.getD t undef):=by
 have hj:j<l.length:=(Yb.1 ho).1;by_cases hw:∃ (i:Nat) (p:Oper),l[i]? = some p/\p.dst=some t
 ·obtain ⟨i,p,hp,hd⟩:=hw
  have hi:i<l.length:=(Yb.1 hp).1;have only:∀ (k:Nat) (q:Oper),l[k]? = some q->k≠i->q.dst≠some t:=fun k q hq hki hdq=>R.stat.once k q i p t hq hp (Ne.symm hki) hd hdq
  by_cases hL:isL listed i
  ·have hij:i<j:=by
    by_cases hij:i=j
    ·subst hij;exact absurd hL hn
    ·rcases R.stat.sure j o i p t ho hp hij hd ht with ⟨e,h1,h2,h3⟩ | ⟨e,h1,h2,h3⟩
     ·have:=R.stat.back j o ho e h1 h2;omega
     ·exact absurd (h3 ▸ D.closed i p hp hL e h1 h2) hn
   rw [R.lookAt (i:=i+1) (by omega) (by omega) fun k q h1 h2 hq=>only k q hq (by omega)];exact D.done i p t hp hL hd
  ·have hij:j<=i:=by
    by_cases hij:i=j
    ·omega
    ·rcases R.stat.sure j o i p t ho hp hij hd ht with ⟨e,h1,h2,h3⟩ | ⟨e,h1,h2,h3⟩
     ·exact absurd (h3 ▸ hr e h1 h2) hL
     ·have:=R.stat.back i p hp e h1 h2;omega
   rw [R.lookAt (i:=0) (by omega) (by omega) fun k q h1 h2 hq=>only k q hq (by omega)];exact D.rest t fun k q hq hLk=>by
    by_cases hki:k=i
    ·subst hki;exact absurd hLk hL
    ·exact only k q hq hki
 ·have none':∀ (k:Nat) (q:Oper),l[k]? = some q->q.dst≠some t:=fun k q hq hdq=>hw ⟨k,q,hq,hdq⟩
  rw [R.lookAt (i:=0) (by omega) (by omega) fun k q _ _ hq=>none' k q hq];exact D.rest t fun k q hq _=>none' k q hq
theorem DI.advance (D:DI G l st ι0 fz0 w0 a0 h M ι fz listed a w) (R:Tr E call l st) {j:Nat}{o:Oper}(ho:l[j]? = some o) (hn:¬ isL listed j) (hr:∀e∈o.after.toList,bnd e=true->isL listed e.on)
  {v:AV}(hT:(st (j+1)).1=put (st j).1 o.dst v) (hdst:∀d,o.dst=some d->d<a0.tmps.size) {ι1:Io}{fz1:Nat->Prop}{M1:Nat->Option HB}{w1:World}{u:Value}(hp:zB1 G ι fz M (st j).2.2 w ι1 fz1 M1 (st (j+1)).2.2 w1) (hu:Rel ι1 fz1 w1 v u)
  {h1:Nat}(hh:(zAe o.op≠3/\h1=h)\/(zAe o.op=3/\h1=j+1/\h<=j))
  (hmem:∀id x,hget (st h1).2.1 id=some x->M1 id=some x)
  (hmade:∀i,h1<=i->(i=j\/isL listed i)->∀id x,(st i).2.2<=id->id<(st (i+1)).2.2->hget (st (i+1)).2.1 id=some x->M1 id=some x) :
  DI G l st ι0 fz0 w0 a0 h1 M1 ι1 fz1 (listed.setIfInBounds j true) (a.put o.dst u) w1:=by
 have hj:j<l.length:=(Yb.1 ho).1;have hjs:j<listed.size:=by rw [D.size];exact hj
 have hI:Inv G ι fz M w:=D.post.inv;have up:∀ {x:AV}{v:Value},Rel ι fz w x v->Rel ι1 fz1 w1 x v:=fun hx=>hp.rel hI hx
 have hle1:(st 0).2.2<=(st j).2.2:=(R.laterAt (i:=0) (j:=j) (by omega) (by omega)).le;have hle2:(st (j+1)).2.2<=(st l.length).2.2:=(R.laterAt (i:=j+1) (j:=l.length) (by omega) (Ya _)).le;have getput:∀t,o.dst≠some t->(a.put o.dst u).tmps.getD t undef=a.tmps.getD t undef:=by
  intro t ht;cases hd:o.dst with
  | none=>rfl
  | some d=>
   have:d≠t:=fun e=>ht (by rw [hd,e])
   simp [Act.put,Xb this]
 refine ⟨by simp [D.size],?_,by rw [zFC];exact D.tsize,by rw [zFh];exact D.tdef,D.post.chain (hp.wide hle1 hle2),?_,?_,?_,hmem,?_,?_,?_,?_⟩
 ·intro i p hpi hL e he hb
  rw [zEk hjs] at hL ⊢;rcases hL with rfl | hL
  ·rw [ho] at hpi
   injection hpi with hpi
   subst hpi;exact .inr (hr e he hb)
  ·exact .inr (D.closed i p hpi hL e he hb)
 ·rcases hh with ⟨_,rfl⟩ | ⟨_,rfl,_⟩
  ·exact D.hle
  ·exact hj
 ·intro c p hpc hkc
  rw [zEk hjs];rcases hh with ⟨hk,rfl⟩ | ⟨hk,rfl,hhj⟩
  ·have hcj:c≠j:=fun e=>by subst e;rw [ho] at hpc;injection hpc with hpc;subst hpc;exact hk hkc
   rw [<- D.hk c p hpc hkc];simp [hcj]
  ·constructor
   ·rintro (rfl | hL)
    ·omega
    ·have:=(D.hk c p hpc hkc).1 hL;omega
   ·intro hlt
    by_cases hcj:c=j
    ·exact .inl hcj
    ·refine .inr ?_
     exact zEs D.closed ho hr c (R.stat.chain j o c p ho hk hpc (by omega) hkc)
 ·rcases hh with ⟨_,rfl⟩ | ⟨hk,rfl,_⟩
  ·exact D.hlast
  ·exact .inr ⟨j,o,rfl,ho,hk⟩
 ·intro i hi hL id x h2 h3 h4
  rw [zEk hjs] at hL;exact hmade i hi hL id x h2 h3 h4
 ·intro i hi hL id h2 h3
  have hLi:¬ isL (listed.setIfInBounds j true) i:=by unfold isL;rw [hL];simp
  rw [zEk hjs] at hLi;have hij:i≠j:=fun e=>hLi (.inl e)
  have hLi2:listed.getD i false=false:=by
   cases hq:listed.getD i false
   ·rfl
   ·exact absurd (.inr hq) hLi
  rw [hp.out id ?_]
  ·exact D.fresh i hi hLi2 id h2 h3
  ·rcases Nat.lt_or_gt_of_ne hij with hlt | hgt
   ·left
    have:=(R.laterAt (i:=i+1) (j:=j) (by omega) (by omega)).le;omega
   ·right
    have:=(R.laterAt (i:=j+1) (j:=i) (by omega) (by omega)).le;omega
 ·intro i p d hpi hL hd
  rw [zEk hjs] at hL;by_cases hij:i=j
  ·subst hij
   rw [ho] at hpi;injection hpi with hpi
   subst hpi;rw [hT,hd]
   show Rel ι1 fz1 w1 (look ((d,v)::(st i).1) d) ((a.tmps.setIfInBounds d u).getD d undef)
   rw [zBO,if_pos rfl];have hlt:d<a.tmps.size:=by rw [D.tsize];exact hdst d hd
   simpa [hlt] using hu
  ·have hL':isL listed i:=by
    rcases hL with e | e
    ·exact absurd e hij
    ·exact e
   rw [getput d (R.stat.once j o i p d ho hpi hij hd)];exact up (D.done i p d hpi hL' hd)
 ·intro t ht
  have hjt:o.dst≠some t:=ht j o ho ((zEk hjs).2 (.inl rfl));rw [getput t hjt];exact up (D.rest t fun i p hpi hL=>ht i p hpi ((zEk hjs).2 (.inr hL)))
end
section
variable {P:Program}{G:Gl}{E:Env}{call:zAr}{l:List Oper}{st:Nat->St}{ι0:Io}{fz0:Nat->Prop}{w0:World}{a0:Act}{h:Nat}{M:Nat->Option HB}{ι:Io}{fz:Nat->Prop}{listed:Array Bool}{a:Act}{w:World}
abbrev upM (M M1 M2:Nat->Option HB):Nat->Option HB:=fun id=>match M2 id with | some hb=>some hb | none=>if M1 id=none then M id else none
theorem DI.ops (D:DI G l st ι0 fz0 w0 a0 h M ι fz listed a w) (R:Tr E call l st) {j:Nat}{o:Oper}(ho:l[j]? = some o) (hn:¬ isL listed j) (hr:∀e∈o.after.toList,bnd e=true->isL listed e.on) :
  ∀x∈o.op.operands,Rel ι fz w (zAf (st j).1 x) (a.eval x):=by
 intro x hx;cases x with
 | tmp t=>
  refine D.opnds R ho hn hr (t:=t) ?_;unfold zCC;rw [Yt,List.mem_filterMap];exact .inl ⟨.tmp t,Array.mem_toList_iff.2 hx,rfl⟩
 | const v=>exact zOd v
 | global g=>exact .any _
 | func f=>exact .fn f [] [] (.nil _)
theorem DI.read (D:DI G l st ι0 fz0 w0 a0 h M ι fz listed a w) (R:Tr E call l st) {sf:List (Nat×Hp×Hp)}(hloose:∀p∈zF8 l,zBa E l (st l.length).1 sf p=true)
  (hsf:∀ (c:Nat) (o:Oper),l[c]? = some o->zAe o.op=3->(c,(st c).2.1,(st (c+1)).2.1)∈sf)
  {j:Nat}{o:Oper}(ho:l[j]? = some o) (hn:¬ isL listed j) (hr:∀e∈o.after.toList,bnd e=true->isL listed e.on) (hk:zAe o.op=1) (hg:zBj l (st j).1 o.guard=some true) {v:AV}{H1:Hp}{n1:Nat}
  (he:zFY o.op E call (st j).1 (st j).2.1 (st j).2.2=.ok v H1 n1) (hT:(st (j+1)).1=put (st j).1 o.dst v) :
  ∃Hs:Hp,(∀id hb,hget Hs id=some hb->M id=some hb)/\zBc (st j).2.2 Hs/\zFY o.op E call (st j).1 Hs (st j).2.2=.ok v Hs (st j).2.2:=by
 have hj:j<l.length:=(Yb.1 ho).1;obtain ⟨_,_,hra⟩:=zEz hk he;rcases hra with hra | ⟨x,hx,id,blk,hxx,hb,hall⟩
 ·exact ⟨[],(fun id hb e=>by cases e),trivial,hra []⟩
 ·have hidn:id<(st j).2.2:=(R.descAt j (by omega)).lt hb
  have enough:∀b',M id=some b'->(∀H2,hget H2 id=some b'->zFY o.op E call (st j).1 H2 (st j).2.2=.ok v H2 (st j).2.2)->∃Hs:Hp,(∀id hb,hget Hs id=some hb->M id=some hb)/\zBc (st j).2.2 Hs/\zFY o.op E call (st j).1 Hs (st j).2.2=.ok v Hs (st j).2.2:=by
   intro b' hM hex;refine ⟨[(id,b')],fun i hb e=>?_,⟨hidn,trivial⟩,hex _ (by rw [zAY,if_pos rfl])⟩;rw [zAY] at e
   split at e
   ·rename_i hii
    subst hii;injection e with e
    rw [hM,e]
   ·cases e
  have hι:∃p,ι id=some p:=by
   have hrel:=D.ops R ho hn hr x hx;rcases hxx with ⟨off,e⟩ | e
   ·rw [e] at hrel
    generalize a.eval x=u at hrel;cases hrel with
    | ptr _ _ b s hi=>exact ⟨_,hi⟩
   ·rw [e] at hrel
    generalize a.eval x=u at hrel;cases hrel with
    | map _ b s hi=>exact ⟨_,hi⟩
  have lo:∀ (c:Nat) (oc:Oper),l[c]? = some oc->zAe oc.op=3->(c<j->¬ isL listed c)->(j<c->isL listed c)->c≠j->∃off,zAf (st j).1 x=.ptr id off/\
    ((j<=c->∃b',hget (st (c+1)).2.1 id=some b'/\∀H2,hget H2 id=some b'->zFY o.op E call (st j).1 H2 (st j).2.2=.ok v H2 (st j).2.2)/\
    (c<j->∀b',hget (st c).2.1 id=some b'->∀H2,hget H2 id=some b'->zFY o.op E call (st j).1 H2 (st j).2.2=.ok v H2 (st j).2.2)):=by
   intro c oc hoc hkc h1 h2 hcj;have hb1:((zAp l).getD j 0).testBit c=false:=by
    cases hq:((zAp l).getD j 0).testBit c
    ·rfl
    ·have hlt:=zRE R.stat.back j c hq
     exact absurd (zEs D.closed ho hr c hq) (h1 hlt)
   have hb2:((zAp l).getD c 0).testBit j=false:=by
    cases hq:((zAp l).getD c 0).testBit j
    ·rfl
    ·have hlt:=zRE R.stat.back c j hq
     exact absurd (zHl D.closed c j (h2 hlt) ⟨oc,hoc⟩ hq) hn
   have hmem:=R.stat.loo j o c oc ho hk hoc hkc hb1 hb2;obtain ⟨t,y,hop,hrd⟩:=zM0 R ho hk hoc hkc (hloose _ hmem) (hsf c oc hoc hkc) hg he hT;have hxy:x=y:=by
    rw [hop] at hx
    simpa [Op.operands] using hx
   subst hxy;rcases hxx with ⟨off,e⟩ | e
   ·exact ⟨off,e,hrd id off e⟩
   ·
    exfalso
    rw [hop] at he
    change zHe t x E call (st j).1 (st j).2.1 (st j).2.2=_ at he
    obtain ⟨ti,_,he⟩:=zEH he;obtain ⟨he,_⟩:=zRd he;rw [e] at he;cases he
  by_cases hid:id<(st h).2.2
  ·by_cases hhj:h<=j
   ·
    have hex:∃b',hget (st h).2.1 id=some b':=by
     cases hq:hget (st h).2.1 id with
     | none=>rw [(R.laterAt hhj (by omega)).dom id hid hq] at hb;cases hb
     | some b'=>exact ⟨b',rfl⟩
    obtain ⟨b',hb'⟩:=hex;refine enough b' (D.mem id b' hb') ?_;rcases zLl (p:=fun c=>∃oc,l[c]? = some oc/\zAe oc.op=3) h j with hno | ⟨c,h1,h2,⟨oc,hoc,hkc⟩,hfirst⟩
    ·have:=R.quietAt hhj (by omega) hid fun k q a1 a2 a3 a4=>hno k a1 a2 ⟨q,a3,a4⟩
     rw [this] at hb;rw [hb'] at hb;injection hb with hb
     subst hb;exact hall
    ·have hnl:¬ isL listed c:=fun hL=>by have:=(D.hk c oc hoc hkc).1 hL;omega
     obtain ⟨off,_,_,hrd⟩:=lo c oc hoc hkc (fun _=>hnl) (fun hh=>by omega) (by omega);refine hrd h2 b' ?_;rw [R.quietAt h1 (by omega) hid fun k q a1 a2 a3 a4=>hfirst k a1 a2 ⟨q,a3,a4⟩];exact hb'
   ·rcases D.hlast with h0 | ⟨c,oc,rfl,hoc,hkc⟩
    ·omega
    ·have hL:isL listed c:=(D.hk c oc hoc hkc).2 (by omega)
     have hcj:c≠j:=fun e=>hn (e ▸ hL)
     obtain ⟨off,_,hrd,_⟩:=lo c oc hoc hkc (fun hh=>by omega) (fun _=>hL) hcj;obtain ⟨b',h1,h2⟩:=hrd (by omega);exact enough b' (D.mem id b' h1) h2
  ·
   have hhj:h<j:=by
    by_cases hhj:h<j
    ·exact hhj
    ·have:=(R.laterAt (i:=j) (j:=h) (by omega) D.hle).le
     omega
   have hmk:∃i,h<=i/\i<j/\(st i).2.2<=id/\id<(st (i+1)).2.2:=by
    have:∀d,h+d<=j->id<(st (h+d)).2.2->∃i,h<=i/\i<j/\(st i).2.2<=id/\id<(st (i+1)).2.2:=by
     intro d
     induction d with
     | zero=>intro _ hh;exact absurd hh hid
     | succ d ih=>
      intro h1 h2;by_cases h3:id<(st (h+d)).2.2
      ·exact ih (by omega) h3
      ·exact ⟨h+d,by omega,by omega,by omega,h2⟩
    refine this (j - h) (by omega) ?_
    rwa [show h+(j - h)=j by omega]
   obtain ⟨i,h1,h2,h3,h4⟩:=hmk;have hi:i<l.length:=by omega
   have hL:isL listed i:=by
    cases hq:listed.getD i false
    ·obtain ⟨p,hp⟩:=hι
     rw [D.fresh i hi hq id h3 h4] at hp;cases hp
    ·exact hq
   have hki:zAe (l[i]).op≠3:=fun hk3=>by
    have:=(D.hk i l[i] (by simp [hi]) hk3).1 hL;omega
   have hex:∃b',hget (st (i+1)).2.1 id=some b':=by
    cases hq:hget (st (i+1)).2.1 id with
    | none=>rw [(R.laterAt (i:=i+1) (j:=j) (by omega) (by omega)).dom id h4 hq] at hb;cases hb
    | some b'=>exact ⟨b',rfl⟩
   obtain ⟨b',hb'⟩:=hex;refine enough b' (D.made i h1 hL id b' h3 h4 hb') ?_;rcases zLl (p:=fun c=>∃oc,l[c]? = some oc/\zAe oc.op=3) (i+1) j with hno | ⟨c,c1,c2,⟨oc,hoc,hkc⟩,hfirst⟩
   ·have:=R.quietAt (i:=i+1) (j:=j) (by omega) (by omega) h4 fun k q a1 a2 a3 a4=>hno k a1 a2 ⟨q,a3,a4⟩
    rw [this] at hb;rw [hb'] at hb;injection hb with hb
    subst hb;exact hall
   ·have hnl:¬ isL listed c:=fun hL=>by have:=(D.hk c oc hoc hkc).1 hL;omega
    obtain ⟨off,_,_,hrd⟩:=lo c oc hoc hkc (fun _=>hnl) (fun hh=>by omega) (by omega);refine hrd c2 b' ?_;rw [R.quietAt (i:=i+1) (j:=c) c1 (by omega) h4 fun k q a1 a2 a3 a4=>hfirst k a1 a2 ⟨q,a3,a4⟩];exact hb'
end
section
variable {P:Program}{G:Gl}{E:Env}{call:zAr}{l:List Oper}{st:Nat->St}{ι0:Io}{fz0:Nat->Prop}{w0:World}{a0:Act}{h:Nat}{M:Nat->Option HB}{ι:Io}{fz:Nat->Prop}{listed:Array Bool}{a:Act}{w:World}
theorem Tr.range (R:Tr E call l st) {i:Nat}{o:Oper}(ho:l[i]? = some o) {id:Nat}(h1:(st i).2.2<=id) (h2:id<(st (i+1)).2.2):zAe o.op=2\/zAe o.op=3:=by
 rcases R.step i o ho with ⟨_,v,he,_⟩ | ⟨_,_,_,hn⟩
 ·rcases zFc o.op with h0 | h0 | h0 | h0
  ·obtain ⟨_,h3,_⟩:=zGn (H2:=[]) h0 _ _ _ he
   omega
  ·obtain ⟨_,h3,_⟩:=zEz h0 he
   omega
  ·exact .inl h0
  ·exact .inr h0
 ·omega
theorem DI.memAt (D:DI G l st ι0 fz0 w0 a0 h M ι fz listed a w) (R:Tr E call l st) {j:Nat}(hj:j<=l.length) (hhj:h<=j) (hno:∀ (c:Nat) (oc:Oper),h<=c->c<j->l[c]? = some oc->zAe oc.op≠3)
  (hmk:∀ (i:Nat) (oi:Oper),h<=i->i<j->l[i]? = some oi->zAe oi.op=2->isL listed i):∀id x,hget (st j).2.1 id=some x->M id=some x:=by
 intro id x hx;have hidn:id<(st j).2.2:=(R.descAt j hj).lt hx;by_cases hid:id<(st h).2.2
 ·rw [R.quietAt hhj hj hid fun k q a1 a2 a3=>hno k q a1 a2 a3] at hx
  exact D.mem id x hx
 ·have:∀d,h+d<=j->id<(st (h+d)).2.2->∃i,h<=i/\i<j/\(st i).2.2<=id/\id<(st (i+1)).2.2:=by
   intro d
   induction d with
   | zero=>intro _ hh;exact absurd hh hid
   | succ d ih=>
    intro h1 h2;by_cases h3:id<(st (h+d)).2.2
    ·exact ih (by omega) h3
    ·exact ⟨h+d,by omega,by omega,by omega,h2⟩
  obtain ⟨i,h1,h2,h3,h4⟩:=this (j - h) (by omega) (by rwa [show h+(j - h)=j by omega]);have hi:i<l.length:=by omega
  have hoi:l[i]? = some l[i]:=by simp [hi]
  rcases R.range hoi h3 h4 with hk | hk
  ·refine D.made i h1 (hmk i _ h1 h2 hoi hk) id x h3 h4 ?_
   rw [<- R.quietAt (i:=i+1) (j:=j) (by omega) hj h4 fun k q a1 a2 a3=>hno k q (by omega) a2 a3];exact hx
  ·exact absurd hk (hno i _ h1 h2 hoi)
theorem zMP {M:Nat->Option HB}{Hs:Hp}(hs:∀id hb,hget Hs id=some hb->M id=some hb) (id:Nat):upM M (hget Hs) (hget Hs) id=M id:=by
 unfold upM;cases e:hget Hs id with
 | none=>simp
 | some hb=>simp [hs id hb e]
theorem DI.step {ops:Array Oper}(hl:ops.toList=l) (hE:zBV P E) (hC:zDV P G call) (D:DI G l st ι0 fz0 w0 a0 h M ι fz listed a w) (R:Tr E call l st) {sf:List (Nat×Hp×Hp)}(hloose:∀p∈zF8 l,zBa E l (st l.length).1 sf p=true)
  (hsf:∀ (c:Nat) (o:Oper),l[c]? = some o->zAe o.op=3->(c,(st c).2.1,(st (c+1)).2.1)∈sf) {j:Nat}(hjr:j∈Region.ready .any ops listed) (hdst:∀o∈l,∀d,o.dst=some d->d<a0.tmps.size)
  {Q:Exit->Act->World->Prop}{K:Act->World->Prop}(hK:∀a' w' h' M' ι' fz',DI G l st ι0 fz0 w0 a0 h' M' ι' fz' (listed.setIfInBounds j true) a' w'->K a' w'):wpOp P ops Q j K a w:=by
 obtain ⟨hun,o,hoo,hall⟩:=mem_ready.1 hjr;have ho:l[j]? = some o:=by rw [<- hl];simpa using hoo
 have hj:j<l.length:=(Yb.1 ho).1;have hn:¬ isL listed j:=by
  unfold isL;have:j<listed.size:=by rw [D.size];exact hj
  simp [this] at hun ⊢;exact hun
 have hr:∀e∈o.after.toList,bnd e=true->isL listed e.on:=fun e he hb=>hall e (Array.mem_toList_iff.1 he) hb
 have hI:Inv G ι fz M w:=D.post.inv;have hd:∀d,o.dst=some d->d<a0.tmps.size:=hdst o (Yk ho);have hgr:∀ {t:Bool},zBj l (st j).1 o.guard=some t->Region.wanted o (yielded ops a.tmps)=t:=by
  intro t hg;rw [<- hl] at hg;refine zGx hg fun g want og d h1 h2 h3=>D.opnds R ho hn hr ?_
  unfold zCC;rw [Yt];refine .inr ?_;rw [h1];have:l[g]? = some og:=by rw [<- hl];simpa using h2
  simp [this,h3]
 have hk3:zAe o.op=3->h<=j/\∀id x,hget (st j).2.1 id=some x->M id=some x:=by
  intro hk;have hhj:h<=j:=by
   rcases Xj j h with hlt | hge
   ·exact absurd ((D.hk j o ho hk).2 hlt) hn
   ·exact hge
  have hno:∀ (c:Nat) (oc:Oper),h<=c->c<j->l[c]? = some oc->zAe oc.op≠3:=fun c oc h1 h2 hoc hkc=>by
   have:=(D.hk c oc hoc hkc).1 (zEs D.closed ho hr c (R.stat.chain j o c oc ho hk hoc h2 hkc));omega
  refine ⟨hhj,D.memAt R (by omega) hhj hno fun i oi h1 h2 hoi hki=>?_⟩;rcases R.stat.make j o i oi ho hk hoi h2 hki with hb | ⟨k,q,hq,h3,h4,h5⟩
  ·exact zEs D.closed ho hr i hb
  ·exact absurd h5 (hno k q (by omega) h4 hq)
 unfold wpOp;rw [hoo];dsimp only;rcases R.step j o ho with ⟨hg,v,he,hT⟩ | ⟨hg,hT,hH,hnn⟩
 ·rw [hgr hg]
  simp only [if_true]
  left
  have hops:=D.ops R ho hn hr;have same:∀Hs:Hp,(∀id hb,hget Hs id=some hb->M id=some hb)->zBc (st j).2.2 Hs->zFY o.op E call (st j).1 Hs (st j).2.2=.ok v Hs (st j).2.2->(st (j+1)).2.2=(st j).2.2->zAe o.op≠3->o.wp P a w K Q:=by
   intro Hs hs hDs hex hnn hk;refine zD7 (o:=o) (a:=a) hE hC (hI.sub hs) hDs hops _ _ _ hex (fun i h1 h2=>by omega) _ _ ?_;rintro u w' ⟨ι',fz',hp,hu⟩
   have hp2:=zB1.up hI hs hp (fun i h1 h2=>by omega);refine hK _ _ h (upM M (hget Hs) (hget Hs)) ι' fz' (D.advance R ho hn hr hT hd (by rw [hnn];exact hp2) hu (.inl ⟨hk,rfl⟩) (fun id x hx=>?_) (fun i h1 h2 id x h3 h4 h5=>?_))
   ·rw [zMP hs];exact D.mem id x hx
   ·rw [zMP hs]
    rcases h2 with rfl | h2
    ·omega
    ·exact D.made i h1 h2 id x h3 h4 h5
  rcases zFc o.op with hk | hk | hk | hk
  ·obtain ⟨_,h2,h3⟩:=zGn (H2:=[]) hk _ _ _ he
   exact same [] (fun id hb e=>by cases e) trivial h3 h2 (by omega)
  ·obtain ⟨_,h2,_⟩:=zEz hk he
   obtain ⟨Hs,h3,h4,h5⟩:=D.read R hloose hsf ho hn hr hk hg he hT;exact same Hs h3 h4 h5 h2 (by omega)
  ·obtain ⟨blk,h2,h3,h4⟩:=zJf (H2:=[]) hk _ _ _ he
   have hfr:ι (st j).2.2=none:=by
    refine D.fresh j hj ?_ _ (Ya _) (by omega);cases hq:listed.getD j false
    ·rfl
    ·exact absurd hq hn
   have hne:∀id x,M id=some x->(st j).2.2≠id:=fun id x hx e=>by
    obtain ⟨b,s,hi,_⟩:=hI.blk id x hx;rw [<- e,hfr] at hi;cases hi
   refine zD7 (o:=o) (a:=a) hE hC (hI.sub (M':=hget []) fun id hb e=>by cases e) (by trivial:zBc (st j).2.2 []) hops _ _ _ h4 (fun i h1 h2=>by
    have:i=(st j).2.2:=by omega
    rw [this];exact hfr) _ _ ?_
   rintro u w' ⟨ι',fz',hp,hu⟩
   have hp2:=zB1.up hI (fun id hb e=>by cases e) hp (fun i h1 h2=>by
    have:i=(st j).2.2:=by omega
    rw [this];exact hfr)
   have keep:∀id x,M id=some x->upM M (hget []) (hget [((st j).2.2,blk)]) id=some x:=by
    intro id x hx;unfold upM;rw [zAY,if_neg (hne id x hx)]
    simpa [zGI] using hx
   refine hK _ _ h (upM M (hget []) (hget [((st j).2.2,blk)])) ι' fz' (D.advance R ho hn hr hT hd (by rw [h3];exact hp2) hu (.inl ⟨by omega,rfl⟩) (fun id x hx=>keep id x (D.mem id x hx)) (fun i h1 h2' id x h5 h6 h7=>?_));rcases h2' with rfl | h2'
   ·have:id=(st i).2.2:=by omega
    subst this;rw [h2,zAY,if_pos rfl] at h7;injection h7 with h7
    subst h7;unfold upM;rw [zAY,if_pos rfl]
   ·exact keep id x (D.made i h1 h2' id x h5 h6 h7)
  ·obtain ⟨hhj,hs⟩:=hk3 hk
   have hD:=R.descAt j (by omega);have hfr:∀i,(st j).2.2<=i->i<(st (j+1)).2.2->ι i=none:=by
    refine D.fresh j hj ?_;cases hq:listed.getD j false
    ·rfl
    ·exact absurd hq hn
   refine zD7 (o:=o) (a:=a) hE hC (hI.sub hs) hD hops _ _ _ he hfr _ _ ?_;rintro u w' ⟨ι',fz',hp,hu⟩
   have hp2:=zB1.up hI hs hp hfr;refine hK _ _ (j+1) (upM M (hget (st j).2.1) (hget (st (j+1)).2.1)) ι' fz' (D.advance R ho hn hr hT hd hp2 hu (.inr ⟨hk,rfl,hhj⟩) (fun id x hx=>?_) (fun i h1 h2 id x h3 h4 h5=>?_))
   ·show (match hget (st (j+1)).2.1 id with | some hb=>some hb | none=>if hget (st j).2.1 id=none then M id else none)=some x
    rw [hx]
   ·rcases h2 with rfl | h2
    ·omega
    ·have hi:i<l.length:=by
      rcases Xj i l.length with q | q
      ·exact q
      ·unfold isL at h2
       rw [Array.getD_eq_getD_getElem?,Array.getElem?_eq_none (by rw [D.size];exact q)] at h2;cases h2
     have hle:=(R.laterAt (i:=j+1) (j:=i) h1 (by omega)).le;have hle0:=(R.laterAt (i:=j) (j:=j+1) (by omega) (by omega)).le;have e1:=(R.descAt (j+1) (by omega)).none (k:=id) (by omega);have e2:=hD.none (k:=id) (by omega)
     show (match hget (st (j+1)).2.1 id with | some hb=>some hb | none=>if hget (st j).2.1 id=none then M id else none)=some x
     rw [e1,e2]
     simpa using D.made i (by omega) h2 id x h3 h4 h5
 ·rw [hgr hg]
  simp only [Bool.false_eq_true,if_false];by_cases hk:zAe o.op=3
  ·obtain ⟨hhj,hs⟩:=hk3 hk
   refine hK _ _ (j+1) M ι fz (D.advance R ho hn hr hT hd (by rw [hnn];exact zB1.refl hI _) (.v undef) (.inr ⟨hk,rfl,hhj⟩) (fun id x hx=>hs id x (by rw [<- hH];exact hx)) (fun i h1 h2 id x h3 h4 h5=>?_));rcases h2 with rfl | h2
   ·omega
   ·exact D.made i (by omega) h2 id x h3 h4 h5
  ·refine hK _ _ h M ι fz (D.advance R ho hn hr hT hd (by rw [hnn];exact zB1.refl hI _) (.v undef) (.inl ⟨hk,rfl⟩) D.mem (fun i h1 h2 id x h3 h4 h5=>?_))
   rcases h2 with rfl | h2
   ·omega
   ·exact D.made i h1 h2 id x h3 h4 h5
end
theorem zB1.drew {G:Gl}{ι:Io}{fz:Nat->Prop}{M:Nat->Option HB}{w:World}(hI:Inv G ι fz M w) (n:Nat):zB1 G ι fz M n w ι fz M n { w with drawn:=w.drawn+1 }:=by
 refine ⟨fun _ _ h=>h,fun _ _=>rfl,fun _ h=>h,fun _ h=>.inl h,Ya _,fun _ _ _=>rfl,rfl,rfl,rfl,fun _ h=>.inl h,?_⟩;refine ⟨fun id hb e=>?_,hI.inj,hI.fzlt,hI.gb,G.keep w _ hI.gp fun _ _=>rfl⟩;obtain ⟨b,s,h1,h2,h3⟩:=hI.blk id hb e;exact ⟨b,s,h1,h2,zJH.mono (w:=w) (w':={ w with drawn:=w.drawn+1 }) (fun _ _ h=>h) (fun _ h=>h) (fun _ _=>rfl) h3 rfl⟩
section
variable {P:Program}{G:Gl}{E:Env}{call:zAr}{l:List Oper}{st:Nat->St}{ι0:Io}{fz0:Nat->Prop}{w0:World}{a0:Act}{ops:Array Oper}
theorem zMa (S:zWS l) (hl:ops.toList=l) {listed:Array Bool}(hs:listed.size=l.length) (hr:Region.ready .any ops listed=[]):∀i,i<l.length->isL listed i:=by
 intro i
 induction i using Nat.strongRecOn with
 | _ i ih=>
  intro hi;by_cases hL:isL listed i
  ·exact hL
  ·exfalso
   have hoi:ops[i]? = some l[i]:=by
    have:l[i]? = some l[i]:=by simp [hi]
    rw [<- this,<- hl];simp
   have:i∈Region.ready .any ops listed:=by
    refine mem_ready.2 ⟨?_,l[i],hoi,fun e he hb=>ih e.on ?_ ?_⟩
    ·have h1:i<listed.size:=by rw [hs];exact hi
     unfold isL at hL;simp [h1] at hL ⊢;exact hL
    ·exact S.back i l[i] (by simp [hi]) e (Array.mem_toList_iff.2 he) hb
    ·have:=S.back i l[i] (by simp [hi]) e (Array.mem_toList_iff.2 he) hb
     omega
   rw [hr] at this;cases this
theorem DI.finish {h:Nat}{M:Nat->Option HB}{ι:Io}{fz:Nat->Prop}{listed:Array Bool}{a:Act}{w:World}(D:DI G l st ι0 fz0 w0 a0 h M ι fz listed a w) (R:Tr E call l st) (hall:∀i,i<l.length->isL listed i) :
  zDb G ι0 fz0 (st 0).2.1 (st 0).2.2 w0 a0 (st l.length).1 (st l.length).2.1 (st l.length).2.2 a w:=by
 refine ⟨D.tsize,D.tdef,ι,fz,D.post.sub (D.memAt R (Ya _) D.hle (fun c oc h1 h2 hoc hk=>?_) (fun i oi _ h2 _ _=>hall i h2)),fun t=>?_⟩
 ·have:=(D.hk c oc hoc hk).1 (hall c h2)
  omega
 ·by_cases hw:∃ (i:Nat) (p:Oper),l[i]? = some p/\p.dst=some t
  ·obtain ⟨i,p,hp,hd⟩:=hw
   have hi:i<l.length:=(Yb.1 hp).1;rw [R.lookAt (i:=i+1) (by omega) (Ya _) fun k q h1 h2 hq hdq=>R.stat.once k q i p t hq hp (by omega) hd hdq];exact D.done i p t hp (hall i hi) hd
  ·have none':∀ (k:Nat) (q:Oper),l[k]? = some q->q.dst≠some t:=fun k q hq hdq=>hw ⟨k,q,hq,hdq⟩
   rw [R.lookAt (i:=0) (by omega) (Ya _) fun k q _ _ hq=>none' k q hq];exact D.rest t fun k q hq _=>none' k q hq
theorem zNc (hl:ops.toList=l) (hE:zBV P E) (hC:zDV P G call) (R:Tr E call l st) {sf:List (Nat×Hp×Hp)}(hloose:∀p∈zF8 l,zBa E l (st l.length).1 sf p=true)
  (hsf:∀ (c:Nat) (o:Oper),l[c]? = some o->zAe o.op=3->(c,(st c).2.1,(st (c+1)).2.1)∈sf) (hdst:∀o∈l,∀d,o.dst=some d->d<a0.tmps.size)
  {Q:Exit->Act->World->Prop}(hQ:∀a' w',zDb G ι0 fz0 (st 0).2.1 (st 0).2.2 w0 a0 (st l.length).1 (st l.length).2.1 (st l.length).2.2 a' w'->Q .normal a' w') :
  ∀ (fuel:Nat) (h:Nat) (M:Nat->Option HB) (ι:Io) (fz:Nat->Prop) (listed:Array Bool) (a:Act) (w:World),DI G l st ι0 fz0 w0 a0 h M ι fz listed a w->listed.toList.countP (fun b=>!b)<=fuel->wpAny P .any ops Q fuel listed a w:=by
 intro fuel
 induction fuel with
 | zero=>
  intro h M ι fz listed a w D hc;have hall:∀i,i<l.length->isL listed i:=by
   intro i hi;have h1:i<listed.size:=by rw [D.size];exact hi
   have h0:listed.toList.countP (fun b=>!b)=0:=by omega
   rw [List.countP_eq_zero] at h0;have:=h0 listed[i] (by simp);unfold isL;simp [h1]
   simpa using this
  refine ⟨?_,hQ _ _ (D.finish R hall)⟩;cases hr:Region.ready .any ops listed with
  | nil=>rfl
  | cons j r=>
   exfalso
   have hj:j∈Region.ready .any ops listed:=by rw [hr];simp
   obtain ⟨hun,o,hoo,_⟩:=mem_ready.1 hj;have hj':j<l.length:=by
    have:l[j]? = some o:=by rw [<- hl];simpa using hoo
    exact (Yb.1 this).1
   have h1:j<listed.size:=by rw [D.size];exact hj'
   have:=hall j hj';unfold isL at this;simp [h1] at this hun;rw [this] at hun;cases hun
 | succ fuel ih=>
  intro h M ι fz listed a w D hc;refine ⟨fun hr=>hQ _ _ (D.finish R (zMa R.stat hl D.size hr)),fun j hj=>?_⟩;refine D.step hl hE hC R hloose hsf hj hdst fun a' w' h' M' ι' fz' D'=>ih h' M' ι' fz' _ a' w' D' ?_
  obtain ⟨hun,o,hoo,_⟩:=mem_ready.1 hj;have hj':j<l.length:=by
   have:l[j]? = some o:=by rw [<- hl];simpa using hoo
   exact (Yb.1 this).1
  have h1:j<listed.toList.length:=by simpa [D.size] using hj'
  have hf:listed.toList[j]=false:=by
   have h2:j<listed.size:=by rw [D.size];exact hj'
   simp [h2] at hun
   simpa using hun
  rw [Array.toList_setIfInBounds,List.countP_set h1];have hpos:0<listed.toList.countP (fun b=>!b):=List.countP_pos_iff.2 ⟨listed.toList[j],List.getElem_mem h1,by rw [hf];rfl⟩;rw [hf];have e:∀c:Nat,c - (if (!false)=true then 1 else 0)+(if (!true)=true then 1 else 0)=c - 1:=by intro c;simp
  rw [e];omega
theorem zMk {id:Nat}(hmix:P.follows .mixedOrders=true) (hE:zBV P E) (hC:zDV P G call) (hM:zBd call) (hok:zGj ops.toList=true) {ι:Io}{fz:Nat->Prop}{H:Hp}{n:Nat}{w:World}{T:Tm}{x:Ex}{T':Tm}{H':Hp}{n':Nat}{a:Act}
  (h:zEx E call ops.toList ops.toList 0 [] T H n=.ok x T' H' n') (hT:zFN ι fz w T a) (hI:Inv G ι fz (hget H) w) (hD:zBc n H) (hf:∀i,n<=i->i<n'->ι i=none) (hd:∀o∈ops.toList,∀d,o.dst=some d->d<a.tmps.size)
  {Q:Exit->Act->World->Prop}(hQ:∀a' w',zDb G ι fz H n w a T' H' n' a' w'->Q .normal a' w') {ops0:Array Oper}(hp0:ops=ops0\/ztG ops0 ops):(Code.region id ops0 true).wp P Q a w:=by
 obtain ⟨st,sf,e0,eN,hs,hl,_,hin⟩:=zMl _ _ _ _ _ _ _ _ _ _ h;have e1:(st 0).1=T:=by rw [e0]
 have e2:(st 0).2.1=H:=by rw [e0]
 have e3:(st 0).2.2=n:=by rw [e0]
 have f1:(st ops.toList.length).1=T':=by rw [eN]
 have f2:(st ops.toList.length).2.1=H':=by rw [eN]
 have f3:(st ops.toList.length).2.2=n':=by rw [eN]
 have R:Tr E call ops.toList st:=⟨hs,hM,by rw [e2,e3];exact hD,zTR hok⟩;have hdr:=zB1.drew hI n;have hI1:Inv G ι fz (hget (st 0).2.1) { w with drawn:=w.drawn+1 }:=by rw [e2];exact hdr.inv
 have hnn:n<=n':=by
  have:=(R.laterAt (i:=0) (j:=ops.toList.length) (by omega) (Ya _)).le;rw [e3,f3] at this;exact this
 refine wp_region_any hmix ((fun hh=>hp0.elim (fun e=>e ▸ hh) (fun hp=>hp.1 P Q a _ hh):wpAny P .any ops Q ops.size (Array.replicate ops.size false) a { w with drawn:=w.drawn+1 }->_) (zNc (w0:={ w with drawn:=w.drawn+1 }) (a0:=a) (ι0:=ι) (fz0:=fz) rfl hE hC R (by rw [f1];exact hl) (fun c o hc hk=>by have:=hin c o hc hk;rwa [Nat.zero_add] at this) hd (fun a' w' hA=>?_) ops.size 0 (hget (st 0).2.1) ι fz _ a _ ?_ ?_))
 ·rw [e2,e3,f1,f2,f3] at hA
  obtain ⟨g1,g2,ι2,fz2,hp,hT2⟩:=hA;exact hQ _ _ ⟨g1,g2,ι2,fz2,(hdr.wide (Ya _) hnn).chain hp,hT2⟩
 ·have nol:∀i,¬ isL (Array.replicate ops.size false) i:=by
   intro i hi;unfold isL at hi;rw [Array.getD_eq_getD_getElem?] at hi;by_cases q:i<ops.size
   ·simp [q] at hi
   ·simp [q] at hi
  refine ⟨by simp,fun j o _ hj=>absurd hj (nol j),rfl,rfl,(zB1.refl hI1 _).wide (Ya _) ?_,Nat.zero_le _,fun c o _ _=>⟨fun hc=>absurd hc (nol c),fun hc=>by omega⟩,.inl rfl,fun id x hx=>hx,fun i _ hi=>absurd hi (nol i),fun i hi _ id h1 h2=>?_,fun i o d _ hi=>absurd hi (nol i),fun t _=>?_⟩
  ·rw [e3,f3];exact hnn
  ·have a1:=(R.laterAt (i:=0) (j:=i) (by omega) (by omega)).le
   have a2:=(R.laterAt (i:=i+1) (j:=ops.toList.length) (by omega) (Ya _)).le;rw [e3] at a1;rw [f3] at a2;exact hf id (by omega) (by omega)
  ·rw [e1]
   exact Rel.mono (w:=w) (w':={ w with drawn:=w.drawn+1 }) (fun _ _ h=>h) (fun _ h=>h) (fun _ _=>rfl) (hT t)
 ·simp
  exact Yq (List.countP_le_length) (by simp)
end
section
variable {P:Program}{G:Gl}{B:Big}
def Snd (P:Program) (G:Gl) (r:Tm->Hp->Nat->Res) (ok:Bool->Prop) (N:Nat) (goal:(Exit->Act->World->Prop)->Act->World->Prop):Prop:=
 ∀T H n x T' H' n',r T H n=.ok x T' H' n'->∀ι fz w (a:Act),N<=a.tmps.size->zFN ι fz w T a->Inv G ι fz (hget H) w->zBc n H->(∀i,n<=i->i<n'->ι i=none)->
  ∀Q:Exit->Act->World->Prop,(∀e a' w',zLk x e->zDb G ι fz H n w a T' H' n' a' w'->Q e a' w')->goal Q a w
theorem zDb.next {ι:Io}{fz:Nat->Prop}{H H1:Hp}{n n1 n':Nat}{w w1:World}{a a1:Act}{T1:Tm}(h:zDb G ι fz H n w a T1 H1 n1 a1 w1) (hn:n<=n1) (hn':n1<=n') (hf:∀i,n<=i->i<n'->ι i=none) :
  ∃ι1 fz1,zFN ι1 fz1 w1 T1 a1/\Inv G ι1 fz1 (hget H1) w1/\(∀i,n1<=i->i<n'->ι1 i=none)/\∀ {T' H' a' w'},zDb G ι1 fz1 H1 n1 w1 a1 T' H' n' a' w'->zDb G ι fz H n w a T' H' n' a' w':=by
 obtain ⟨g1,g2,ι1,fz1,hp,hT⟩:=h;refine ⟨ι1,fz1,hT,hp.inv,fun i h1 h2=>by rw [hp.out i (.inr h1)];exact hf i (by omega) h2,?_⟩;rintro T' H' a' w' ⟨k1,k2,ι2,fz2,hp2,hT2⟩
 exact ⟨k1.trans g1,k2.trans g2,ι2,fz2,hp.trans hp2 hn hn',hT2⟩
theorem zDb.refl {ι:Io}{fz:Nat->Prop}{H:Hp}{n:Nat}{w:World}{a:Act}{T:Tm}(hT:zFN ι fz w T a) (hI:Inv G ι fz (hget H) w):zDb G ι fz H n w a T H n a w:=⟨rfl,rfl,ι,fz,zB1.refl hI n,hT⟩
theorem zP3 {ops:Array Oper}{N:Nat}(h:(ops.toList.all fun o=>match o.dst with | some d=>Nat.ble (Nat.succ d) N | none=>true)=true) {m:Nat}(hN:N<=m):∀o∈ops.toList,∀d,o.dst=some d->d<m:=by
 intro o ho d hd;rw [List.all_eq_true] at h;have:=h o ho;rw [hd] at this;have h2:d+1<=N:=Ym this;exact Yh h2 hN
theorem zFN.weak {ι:Io}{fz:Nat->Prop}{w:World}{T T':Tm}{a:Act}(h:zFN ι fz w T a) (hw:∀t,look T' t=look T t\/look T' t=.any):zFN ι fz w T' a:=fun t=>by
 rcases hw t with e | e
 ·rw [e];exact h t
 ·rw [e];exact .any _
def zRD (P:Program) (G:Gl) (D:Nat) (r:Tm->Hp->Nat->Res) (N:Nat) (goal:(Exit->Act->World->Prop)->Act->World->Prop):Prop:=
 ∀T H n x T' H' n',r T H n=.ok x T' H' n'->zKe D T->∀ι fz w (a:Act),N<=a.tmps.size->zFN ι fz w T a->Inv G ι fz (hget H) w->zBc n H->(∀i,n<=i->i<n'->ι i=none)->
  ∀Q:Exit->Act->World->Prop,(∀e a' w',zLk x e->zDb G ι fz H n w a T' H' n' a' w'->Q e a' w')->goal Q a w
theorem zOk {E:Env}{call:zAr}(hmix:P.follows .mixedOrders=true) (hE:zBV P E) (hC:zDV P G call) (hM:zBd call) {id:Nat}{ops0 ops:Array Oper}{draw:Bool}(hp0:ops=ops0\/draw=true/\ztG ops0 ops) {N:Nat}(hok:zBN N (.region id ops0 draw)=true) :
  Snd P G (zHa E call ops draw) (fun _=>True) N (fun Q a w=>(Code.region id ops0 draw).wp P Q a w):=by
 intro T H n x T' H' n' h ι fz w a hN hT hI hD hf Q hQ;have hd0:=zP3 (ops:=ops0) (N:=N) hok hN;have hd:∀o∈ops.toList,∀d,o.dst=some d->d<a.tmps.size:=by
  rcases hp0 with rfl | ⟨_,hp⟩
  ·exact hd0
  ·intro o ho d hd
   obtain ⟨o0,h1,h2⟩:=hp.2 o ho;exact hd0 o0 h1 d (h2 ▸ hd)
 unfold zHa at h;cases draw
 ·dsimp only at h
  have hx:=zO6 (ops:=ops) _ h;subst hx;obtain rfl:ops=ops0:=hp0.resolve_right fun h=>by cases h.1
  exact wp_region_list (zO7 hE hC hM _ (fun _ ho=>ho) h hT hI hD hf hd fun a' w' hA=>hQ _ _ _ rfl hA)
 ·dsimp only at h
  cases hdr:zGj ops.toList
  ·rw [hdr] at h;cases h
  ·rw [hdr] at h
   have hx:=zLg (ops:=ops) _ h;subst hx;exact zMk hmix hE hC hM hdr h hT hI hD hf hd (fun a' w' hA=>hQ _ _ _ rfl hA) (hp0.imp_right (·.2))
theorem zN1 {ev:Ev B.E}(hmix:P.follows .mixedOrders=true) (hE:zBV P B.E) (hm:zDF B) (hev:zHg ev) (hk:zPm ev) (hC:zDV P G (zEI B ev)) {m:Nat}(ih:∀ (D N:Nat) (c:CC B.E D),zBN N (zBA c)=true->zRD P G D (ev D c) N (fun Q a w=>(zBA c).wp P Q a w))
  (ihL:∀ (D N:Nat) (b:CC B.E D),zBN N (zBA b)=true->zRD P G D (ev D (.loop b)) N (fun Q a w=>Code.rounds P (zBA b) Q m a w)) :
  (∀ (D N:Nat) (b:CC B.E D),zBN N (zBA b)=true->zRD P G D (evF B ev D (.loop b)) N (fun Q a w=>Code.rounds P (zBA b) Q (m+1) a w))/\
  ∀ (D N:Nat) (c:CC B.E D),zBN N (zBA c)=true->zRD P G D (evF B ev D c) N (fun Q a w=>(zBA c).wp P Q a w):=by
 have hM:zBd (zEI B ev):=zHn hm hev;have loops:∀ (D N:Nat) (b:CC B.E D),zBN N (zBA b)=true->zRD P G D (evF B ev D (.loop b)) N (fun Q a w=>Code.rounds P (zBA b) Q (m+1) a w):=by
  intro D N b hok T H n x T' H' n' h hnk ι fz w a hN hT hI hD hf Q hQ;unfold evF at h;dsimp only at h
  try unfold zMm at h
  try unfold zFV at h
  try unfold zC4 at h
  try unfold zFW at h
  cases he:ev D b T H n with
  | fail=>rw [he] at h;cases h
  | ok y T1 H1 n1=>
   rw [he] at h;have h0:=hev _ _ _ _ _ _ _ _ _ he hD;rw [rounds_succ];cases y with
   | nrm=>
    have h9:=hev _ _ _ _ _ _ _ _ _ h h0.desc;refine ih D N b hok _ _ _ _ _ _ _ he hnk ι fz w a hN hT hI hD (fun i h1 h2=>hf i h1 (by have:=h9.le;omega)) _ fun e a1 w1 hx hA=>?_
    subst hx;obtain ⟨ι1,fz1,hT1,hI1,hf1,hAA⟩:=hA.next h0.le h9.le hf;exact ihL D N b hok _ _ _ _ _ _ _ h (hk _ _ _ _ _ _ _ _ _ he hnk) ι1 fz1 w1 a1 (by rw [hA.1];exact hN) hT1 hI1 h0.desc hf1 Q fun e a2 w2 hx2 hA2=>hQ e a2 w2 hx2 (hAA hA2)
   | ret=>
    injection h with e1 e2 e3 e4
    subst e1 e2 e3 e4;refine ih D N b hok _ _ _ _ _ _ _ he hnk ι fz w a hN hT hI hD hf _ fun e a1 w1 hx hA=>?_
    have hx':e=.ret:=hx;subst hx';exact hQ _ _ _ rfl hA
   | exit i=>
    injection h with e1 e2 e3 e4
    subst e1 e2 e3 e4;refine ih D N b hok _ _ _ _ _ _ _ he hnk ι fz w a hN hT hI hD hf _ fun e a1 w1 hx hA=>?_
    have hx':e=.exit i:=hx;subst hx';exact hQ _ _ _ rfl hA
 refine ⟨loops,?_⟩;intro D N c hok T H n x T' H' n' h hnk ι fz w a hN hT hI hD hf Q hQ;cases c
 case skip=>injection h with e1 e2 e3 e4;subst e1 e2 e3 e4;exact wp_skip (hQ _ _ _ rfl (zDb.refl hT hI))
 case label=>injection h with e1 e2 e3 e4;subst e1 e2 e3 e4;exact wp_label (hQ _ _ _ rfl (zDb.refl hT hI))
 case ret=>injection h with e1 e2 e3 e4;subst e1 e2 e3 e4;exact wp_ret (hQ _ _ _ rfl (zDb.refl hT hI))
 case exit=>injection h with e1 e2 e3 e4;subst e1 e2 e3 e4;exact wp_exit (hQ _ _ _ rfl (zDb.refl hT hI))
 case scope b=>
  refine wp_scope_straight (ih D N b hok _ _ _ _ _ _ _ h hnk ι fz w a hN hT hI hD hf _ fun e a' w' hx hA=>?_);have:=hQ e a' w' hx hA;cases x <;> (have hx':=hx;unfold zLk at hx';subst hx';exact this)
 case cond c p q=>
  unfold zBA zBN at hok;simp only [Yi] at hok;unfold evF at h;dsimp only at h
  try unfold zMm at h
  try unfold zFV at h
  try unfold zC4 at h
  try unfold zFW at h
  split at h
  ·rename_i t et
   have hr:=zL6 hT c;rw [et] at hr;generalize hv:a.eval c=v at hr;cases hr;cases t
   ·exact wp_cond_false hv (ih D N q hok.2 _ _ _ _ _ _ _ h hnk ι fz w a hN hT hI hD hf Q hQ)
   ·exact wp_cond_true hv (ih D N p hok.1 _ _ _ _ _ _ _ h hnk ι fz w a hN hT hI hD hf Q hQ)
  ·cases h
 case seq p q=>
  unfold zBA zBN at hok;simp only [Yi] at hok;unfold evF at h;dsimp only at h
  try unfold zMm at h
  try unfold zFV at h
  try unfold zC4 at h
  try unfold zFW at h
  cases he:ev D p T H n with
  | fail=>rw [he] at h;cases h
  | ok y T1 H1 n1=>
   rw [he] at h;have h0:=hev _ _ _ _ _ _ _ _ _ he hD;apply wp_seq
   cases y with
   | nrm=>
    have h9:=hev _ _ _ _ _ _ _ _ _ h h0.desc;refine ih D N p hok.1 _ _ _ _ _ _ _ he hnk ι fz w a hN hT hI hD (fun i h1 h2=>hf i h1 (by have:=h9.le;omega)) _ fun e a1 w1 hx hA=>?_
    subst hx;obtain ⟨ι1,fz1,hT1,hI1,hf1,hAA⟩:=hA.next h0.le h9.le hf;exact ih D N q hok.2 _ _ _ _ _ _ _ h (hk _ _ _ _ _ _ _ _ _ he hnk) ι1 fz1 w1 a1 (by rw [hA.1];exact hN) hT1 hI1 h0.desc hf1 Q fun e a2 w2 hx2 hA2=>hQ e a2 w2 hx2 (hAA hA2)
   | ret=>
    injection h with e1 e2 e3 e4
    subst e1 e2 e3 e4;refine ih D N p hok.1 _ _ _ _ _ _ _ he hnk ι fz w a hN hT hI hD hf _ fun e a1 w1 hx hA=>?_
    have hx':e=.ret:=hx;subst hx';exact hQ _ _ _ rfl hA
   | exit i=>
    injection h with e1 e2 e3 e4
    subst e1 e2 e3 e4;refine ih D N p hok.1 _ _ _ _ _ _ _ he hnk ι fz w a hN hT hI hD hf _ fun e a1 w1 hx hA=>?_
    have hx':e=.exit i:=hx;subst hx';exact hQ _ _ _ rfl hA
 case loop b=>exact wp_loop_rounds (m+1) (loops D N b hok _ _ _ _ _ _ _ h hnk ι fz w a hN hT hI hD hf Q hQ)
 case block id b=>
  unfold evF at h;dsimp only at h
  try unfold zMm at h
  try unfold zFV at h
  try unfold zC4 at h
  try unfold zFW at h
  cases he:ev D b T H n with
  | fail=>rw [he] at h;cases h
  | ok y T1 H1 n1=>
   rw [he] at h;apply wp_block
   have fin:n1=n'->T1=T'->H1=H'->(∀e a1 w1,zLk y e->zDb G ι fz H n w a T1 H1 n1 a1 w1->Exit.inBlock id Q e a1 w1)->(zBA b).wp P (Exit.inBlock id Q) a w:=by
    rintro rfl rfl rfl hh
    exact ih D N b hok _ _ _ _ _ _ _ he hnk ι fz w a hN hT hI hD hf _ hh
   cases y with
   | nrm=>
    injection h with e1 e2 e3 e4
    subst e1 e2 e3 e4;exact fin rfl rfl rfl fun e a1 w1 hx hA=>by
     have hx':e=.normal:=hx;subst hx';exact hQ _ _ _ rfl hA
   | ret=>
    injection h with e1 e2 e3 e4
    subst e1 e2 e3 e4;exact fin rfl rfl rfl fun e a1 w1 hx hA=>by
     have hx':e=.ret:=hx;subst hx';exact hQ _ _ _ rfl hA
   | exit i=>
    dsimp only at h;cases hi:Nat.beq i id
    ·rw [hi] at h
     injection h with e1 e2 e3 e4
     subst e1 e2 e3 e4;exact fin rfl rfl rfl fun e a1 w1 hx hA=>by
      have hx':e=.exit i:=hx;subst hx';have hne:i≠id:=fun e=>by subst e;simp at hi
      show (if i=id then _ else _)
      rw [if_neg hne];exact hQ _ _ _ rfl hA
    ·rw [hi] at h
     injection h with e1 e2 e3 e4
     subst e1 e2 e3 e4;exact fin rfl rfl rfl fun e a1 w1 hx hA=>by
      have hx':e=.exit i:=hx;subst hx'
      show (if i=id then _ else _)
      rw [if_pos (Yg hi)];exact hQ _ _ _ rfl hA
 case reg id ops draw r hr=>
  obtain ⟨_,ops',hp0,T1,h1,hw⟩:=zKC hr h hnk;exact zOk hmix hE hC hM hp0 hok _ _ _ _ _ _ _ h1 ι fz w a hN hT hI hD hf Q fun e a' w' hx ⟨g1,g2,ι',fz',hp,hT'⟩=>hQ e a' w' hx ⟨g1,g2,ι',fz',hp,hT'.weak hw⟩
 case bad=>cases h
end
section
variable {P:Program}{G:Gl}{E:Env}{ι:Io}{fz:Nat->Prop}{w:World}
theorem zHj:∀ (args:List AV) (k t:Nat),look (zKh args k) t=if k<=t then (args[t - k]?).getD .any else .any
 | [],k,t=>by simp [zKh,zQR]
 | x::args,k,t=>by
  show look ((k,x)::zKh args (k+1)) t=_
  rw [zBO,zHj args (k+1) t];by_cases h:k=t
  ·subst h;simp
  ·rw [if_neg h]
   by_cases h2:k+1<=t
   ·rw [if_pos h2,if_pos (by omega),show t - k=(t - (k+1))+1 by omega]
    simp
   ·rw [if_neg h2,if_neg (by omega)]
theorem zJS {args:List AV}{vals:List Value}(h:zA5 ι fz w false args vals) (m:Nat):zFN ι fz w (zKh args 0) { tmps:=vals.toArray++Array.replicate m undef,defers:=[] }:=by
 intro t;rw [zHj];simp only [Nat.zero_le,if_true,Nat.sub_zero];cases e:args[t]? with
 | none=>exact .any _
 | some x=>
  obtain ⟨v,h1,h2,_⟩:=h.get e;have ht:t<vals.length:=(Yb.1 h1).1;have:(vals.toArray++Array.replicate m undef).getD t undef=v:=by
   rw [Array.getD_eq_getD_getElem?,Array.getElem?_append_left (by simpa using ht)];simp [h1]
  show Rel ι fz w x ((vals.toArray++Array.replicate m undef).getD t undef)
  rw [this];exact h2
def zWQ (tmps:Array Value):ResultVar->Sem Value
 | .tmp t=>pure (tmps.getD t undef)
 | .cell a t=>do loadVar t (<- asAddr (tmps.getD a undef))
theorem zIB (fn:Func) (tmps:Array Value):results fn tmps=(do let vs <- fn.results.mapM (zWQ tmps);pure (if h:vs.size=1 then vs[0] else .tuple vs)):=by
 unfold results
 congr
theorem zLH (hE:zBV P E) {H:Hp}{T:Tm}{a:Act}(hI:Inv G ι fz (hget H) w) (hT:zFN ι fz w T a):∀ (rs:List ResultVar) (vs:List AV),zHc E T H rs=some vs->
  ∃us:List Value,(rs.mapM (zWQ a.tmps)).run P w=.ok us w/\zA5 ι fz w false vs us
 | [],vs,h=>by
  cases h;exact ⟨[],by simp,.nil _⟩
 | r::rs,vs,h=>by
  obtain ⟨v,h1,h2⟩:=zAW h;obtain ⟨l,h3,h4⟩:=zAW h2;cases h4;obtain ⟨us,h5,h6⟩:=zLH hE hI hT rs l h3;cases r with
  | tmp t=>
   cases h1;exact ⟨_::us,by simp only [List.mapM_cons,zWQ,Sem.run_bind,Sem.run_pure,Result.andThen_ok,h5],.cons _ _ _ _ _ (hT t) (fun e=>by cases e) h6⟩
  | cell c t=>
   obtain ⟨ti,h7,h8⟩:=zAW h1;obtain ⟨ad,x,h9,h10,h11⟩:=zLx hI (hE t ti h7) (hT c) h8;exact ⟨x::us,by simp only [List.mapM_cons,zWQ,h9,asAddr,Sem.run_bind,Sem.run_pure,Result.andThen_ok,h10,h5],.cons _ _ _ _ _ h11 (fun e=>by cases e) h6⟩
theorem zOf {vs:List AV}{us:List Value}(h:zA5 ι fz w false vs us):Rel ι fz w (one vs) (if h:us.toArray.size=1 then us.toArray[0] else .tuple us.toArray):=by
 cases h with
 | nil=>exact .tup [] [] (.nil _)
 | cons _ x u xs us hx hc hs=>
  cases hs with
  | nil=>simpa [one] using hx
  | cons _ y v ys vs hy hc2 hs=>
   have:¬ ((u::v::vs).toArray.size=1):=by simp
   rw [dif_neg this];exact .tup _ _ (.cons _ _ _ _ _ hx hc (.cons _ _ _ _ _ hy hc2 hs))
end
section
variable {P:Program}{G:Gl}{B:Big}
def zPl (P:Program) (B:Big):Prop:=∀f fd,PT.get none B.fn f=some fd->P.funcs[f]? = some fd.fn/\(fd.fn.name == "runtime.NumGoroutine")=false/\fd.fn.body=some (zBA fd.cc)/\zBN fd.fn.ntmps (zBA fd.cc)=true
theorem zMe (x:AV) (args:List AV) (k:Nat):zKh (x::args) k=(k,x)::zKh args (k+1):=rfl
theorem zHk (D:Nat) (x:AV) (args:List AV) (k:Nat):zDg D (x::args) k=(Bool.rec ((k,x)::zDg D args (k+1)) (zDg D args (k+1)) (inD D k):Tm):=rfl
theorem zC2 (D:Nat):∀ (args:List AV) (k:Nat),zKe D (zDg D args k)
 | [],k,t,_=>rfl
 | x::args,k,t,h=>by
  rw [zHk];cases hk:inD D k
  ·show look ((k,x)::zDg D args (k+1)) t=.any
   rw [zBO,if_neg (fun e=>by rw [e,h] at hk;cases hk)];exact zC2 D args (k+1) t h
  ·exact zC2 D args (k+1) t h
theorem zD0 (D:Nat):∀ (args:List AV) (k t:Nat),look (zDg D args k) t=look (zKh args k) t\/look (zDg D args k) t=.any
 | [],k,t=>.inl rfl
 | x::args,k,t=>by
  rw [zHk,zMe];cases hk:inD D k
  ·show look ((k,x)::zDg D args (k+1)) t=_\/look ((k,x)::zDg D args (k+1)) t=_
   rw [zBO,zBO];by_cases e:k=t
   ·rw [if_pos e,if_pos e];exact .inl rfl
   ·rw [if_neg e,if_neg e];exact zD0 D args (k+1) t
  ·show look (zDg D args (k+1)) t=_\/look (zDg D args (k+1)) t=_
   by_cases e:k=t
   ·subst e;exact .inr (zC2 D args (k+1) k hk)
   ·rw [zBO,if_neg e];exact zD0 D args (k+1) t
def zPo (P:Program) (G:Gl) (B:Big):Prop:=∀f nf,PT.get none B.nat f=some nf->∀H args v,nf H args=some v->∀n,zCu P G f args H n v H n
def zLV (P:Program) (G:Gl) (B:Big):Prop:=∀f args H n v H' n',zJz B f args H n=some (.ok v H' n')->zCu P G f args H n v H' n'
theorem zGW {ev:Ev B.E}(hE:zBV P B.E) (hF:zPl P B) (hN:zPo P G B) (hK:zLV P G B) (hev:zHg ev) (ih:∀ (D N:Nat) (c:CC B.E D),zBN N (zBA c)=true->zRD P G D (ev D c) N (fun Q a w=>(zBA c).wp P Q a w)):zDV P G (zEI B ev):=by
 intro f args H n v H' n' h ι fz w vals hr hI hD hf;unfold zEI at h;cases hme:zJz B f args H n with
 | some e=>
  rw [hme] at h;have h:e=.ok v H' n':=h;subst h;exact hK _ _ _ _ _ _ _ hme ι fz w vals hr hI hD hf
 | none=>
 rw [hme] at h;dsimp only at h;cases hn:zSk B f args H with
 | some u=>
  rw [hn] at h;injection h with h1 h2 h3
  subst h1 h2 h3;obtain ⟨nf,h4,h5⟩:=zAW hn;exact hN f nf h4 H args u h5 n ι fz w vals hr hI hD hf
 | none=>
  rw [hn] at h;dsimp only at h;cases hfd:PT.get none B.fn f with
  | none=>rw [hfd] at h;cases h
  | some fd=>
   rw [hfd] at h;dsimp only at h;obtain ⟨hfn,hname,hb,hds⟩:=hF f fd hfd;obtain ⟨x,T1,H1,vs,hx,n1,he,hres,hgc⟩:=zLi h;have h0:=hev _ _ _ _ _ _ _ _ _ he hD;have hsub:=zGt hgc h0.desc;obtain ⟨rfl,rfl,_⟩:=zE2 hgc;refine .inr ⟨?_,calls_of_wp hfn hb (ih fd.D fd.fn.ntmps fd.cc hds _ _ _ _ _ _ _ he (zC2 fd.D args 0) ι fz w _ ?_ ((zJS hr _).weak (zD0 fd.D args 0)) hI hD hf _ fun e a' w' hxe hA=>?_)⟩
   ·have hname':¬ fd.fn.name = "runtime.NumGoroutine":=by simpa using hname
    simp [callFunc,hfn,hname',hb]
   ·simp;omega
   ·obtain ⟨g1,g2,ι1,fz1,hp,hT⟩:=hA
    obtain ⟨us,h5,h6⟩:=zLH hE hp.inv hT _ _ hres;have hrun:(results fd.fn a'.tmps).run P w' = .ok (if h:us.toArray.size=1 then us.toArray[0] else .tuple us.toArray) w':=by
     rw [zIB,Array.mapM_eq_mapM_toList,Sem.run_bind,map_eq_pure_bind,Sem.run_bind,h5];rfl
    have key:a'.defers=[]/\∃v',(results fd.fn a'.tmps).run P w' = .ok v' w'/\∃ι' fz',zB1 G ι fz (hget H) n w ι' fz' (hget H') n' w'/\Rel ι' fz' w' (one vs) v':=
     ⟨g2,_,hrun,ι1,fz1,hp.sub hsub,zOf h6⟩
    rcases hx with rfl | rfl
    ·have hx':e=.normal:=hxe
     subst hx';exact key
    ·have hx':e=.ret:=hxe
     subst hx';exact key
theorem zEy (hmix:P.follows .mixedOrders=true) (hE:zBV P B.E) (hF:zPl P B) (hN:zPo P G B) (hm:zDF B) (hK:zLV P G B):∀m:Nat,
  (∀ (D N:Nat) (b:CC B.E D),zBN N (zBA b)=true->zRD P G D (ev B m D (.loop b)) N (fun Q a w=>Code.rounds P (zBA b) Q m a w))/\
  ∀ (D N:Nat) (c:CC B.E D),zBN N (zBA c)=true->zRD P G D (ev B m D c) N (fun Q a w=>(zBA c).wp P Q a w)
 | 0=>⟨fun _ _ _ _ _ _ _ _ _ _ _ h=>(by cases h),fun _ _ _ _ _ _ _ _ _ _ _ h=>(by cases h)⟩
 | m+1=>zN1 hmix hE hm (zFX hm m) (zN2 m) (zGW hE hF hN hK (zFX hm m) (zEy hmix hE hF hN hm hK m).2) (zEy hmix hE hF hN hm hK m).2 (zEy hmix hE hF hN hm hK m).1
theorem zHo (hmix:P.follows .mixedOrders=true) (hE:zBV P B.E) (hF:zPl P B) (hN:zPo P G B) (hm:zDF B) (hK:zLV P G B) (m:Nat):zDV P G (zEI B (ev B m)):=zGW hE hF hN hK (zFX hm m) (zEy hmix hE hF hN hm hK m).2
end
#print axioms zHo
end Go.Proofs.YtngjhigieajkmaaGreatDoor
end
