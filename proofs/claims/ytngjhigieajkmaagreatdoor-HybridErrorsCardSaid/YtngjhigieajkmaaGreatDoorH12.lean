/- Bundle 12: what the law's walk stands on: Q27, Q28, Q29, Q30, K43, C3, C6, U1, U3, U4. -/
import Derived.Stop.LaidErr
import Derived.Laws.EntriesVeiled
import Derived.KernelRfl
import Derived.Lib.Builder
import Derived.Lib.AppendStr
import Derived.Lib.UnsafeStr
import Derived.Laws.Externs
import Derived.Test.YtngjhigieajkmaaGreatDoorProg
import Derived.Lib.Strings
import Derived.Test.YtngjhigieajkmaaGreatDoorH5
import Derived.Test.YtngjhigieajkmaaGreatDoorH6
import Derived.Test.YtngjhigieajkmaaGreatDoorH7
import Derived.Test.YtngjhigieajkmaaGreatDoorH8
import Derived.Test.YtngjhigieajkmaaGreatDoorH11
set_option maxRecDepth 100000
set_option maxHeartbeats 20000000
set_option linter.all false
noncomputable section
namespace Go.Proofs.YtngjhigieajkmaaGreatDoor
open Go.RowKit Pl
theorem zO5:∀ {x y:HB},zO4 x y=true->x=y
 | .cells a,.cells b,h=>by
  have:=zFE (.agg a) (.agg b) h;injection this with this
  rw [this]
 | .cells _,.map _,h=>by cases h
 | .map _,.cells _,h=>by cases h
 | .map _,.map _,h=>by cases h
section
variable (s:Nat->Nat)
theorem zEi:∀cs:List AV,ren s (.agg cs)=.agg (cs.map (ren s))
 | []=>rfl
 | c::cs=>by
  have:ren s (.agg (c::cs))=(match ren s (.agg cs) with | .agg l=>.agg (ren s c::l) | y=>y):=rfl;rw [this,zEi cs];rfl
theorem zOo (cs:List AV) (l:Nat):ren s (.fsl cs l)=.fsl (cs.map (ren s)) l:=by
 have:ren s (.fsl cs l)=(match ren s (.agg cs) with | .agg cs=>.fsl cs l | y=>y):=rfl;rw [this,zEi]
theorem zOn (cs:List AV):ren s (.fpt cs)=.fpt (cs.map (ren s)):=by
 have:ren s (.fpt cs)=(match ren s (.agg cs) with | .agg cs=>.fpt cs | y=>y):=rfl;rw [this,zEi]
theorem zOp (cs:List AV):ren s (.tup cs)=.tup (cs.map (ren s)):=by
 have:ren s (.tup cs)=(match ren s (.agg cs) with | .agg cs=>.tup cs | y=>y):=rfl;rw [this,zEi]
theorem zRg (f:Nat) (cs:List AV):ren s (.fn f cs)=.fn f (cs.map (ren s)):=by
 have:ren s (.fn f cs)=(match ren s (.agg cs) with | .agg cs=>.fn f cs | y=>y):=rfl;rw [this,zEi]
end
theorem zEc (k:Nat):∀cs:List AV,zEK k (.agg cs)=cs.all (zEK k)
 | []=>rfl
 | c::cs=>by
  have:zEK k (.agg (c::cs))=Bool.and (zEK k c) (zEK k (.agg cs)):=rfl;rw [this,zEc k cs];rfl
section
variable {ι ι2:Io}{fz:Nat->Prop}{w:World}{s:Nat->Nat}
mutual
theorem Rel.ren (h:∀i p,ι i=some p->ι2 (s i)=some p):∀ {x:AV}{v:Value},Rel ι fz w x v->Rel ι2 fz w (Go.Proofs.YtngjhigieajkmaaGreatDoor.ren s x) v
 | _,_,.i k n=>.i k n
 | _,_,.b t=>.b t
 | _,_,.v x=>.v x
 | _,_,.any x=>.any x
 | _,_,.lim n A len c hs hf=>.lim n A len c hs hf
 | _,_,.fsl cs vs len b o c hfz hc hl hr=>by rw [zOo];exact .fsl _ vs len b o c hfz hc hl (zA5.ren h hr)
 | _,_,.fpt cs vs b o hfz hc hr=>by rw [zOn];exact .fpt _ vs b o hfz hc (zA5.ren h hr)
 | _,_,.sl id off len k cap b z c hi hs hl hc hm=>.sl (s id) off len k cap b z c (h _ _ hi) hs hl hc hm
 | _,_,.ptr id off b z hi=>.ptr (s id) off b z (h _ _ hi)
 | _,_,.map id b z hi=>.map (s id) b z (h _ _ hi)
 | _,_,.agg cs vs hr=>by rw [zEi];exact .agg _ vs (zA5.ren h hr)
 | _,_,.tup cs vs hr=>by rw [zOp];exact .tup _ vs (zA5.ren h hr)
 | _,_,.fn f cs vs hr=>by rw [zRg];exact .fn f _ vs (zA5.ren h hr)
 | _,_,.ifc t x v hr=>.ifc t _ v (Rel.ren h hr)
theorem zA5.ren (h:∀i p,ι i=some p->ι2 (s i)=some p):∀ {c:Bool}{xs:List AV}{vs:List Value},zA5 ι fz w c xs vs->zA5 ι2 fz w c (xs.map (Go.Proofs.YtngjhigieajkmaaGreatDoor.ren s)) vs
 | _,_,_,.nil c=>.nil c
 | _,_,_,.cons c x v xs vs hx hc hs=>.cons c _ v _ vs (Rel.ren h hx) hc (zA5.ren h hs)
end
theorem zJN.ren (h:∀i p,ι i=some p->ι2 (s i)=some p) {ps:List (AV×AV)}{es:List MapEntry}(hr:zJN ι fz w ps es):zJN ι2 fz w (ps.map fun p=>(Go.Proofs.YtngjhigieajkmaaGreatDoor.ren s p.1,Go.Proofs.YtngjhigieajkmaaGreatDoor.ren s p.2)) es:=by
 induction hr with
 | nil=>exact .nil
 | cons p e ps es hk hv _ ih=>exact .cons _ e _ es (Rel.ren h hk) (Rel.ren h hv) ih
theorem zJH.ren (h:∀i p,ι i=some p->ι2 (s i)=some p) {b z:Nat}{hb:HB}(hr:zJH ι fz w b z hb):zJH ι2 fz w b z (zM4 s hb):=by
 cases hb with
 | cells cs=>
  obtain ⟨vs,rest,t,h1,h2,h3⟩:=hr;refine ⟨vs,rest,t,h1,?_,h3⟩;rw [zCN];exact zA5.ren h h2
 | map es=>
  obtain ⟨ms,clock,h1,h2⟩:=hr;refine ⟨ms,clock,h1,?_⟩;rw [zCN];exact zJN.ren h h2
def cut (ι:Io) (s:Nat->Nat) (k:Nat):Io:=fun i=>if i<k then ι (s i) else none
theorem zEv {k i:Nat}(h:i<k):cut ι2 s k i=ι2 (s i):=if_pos h
theorem zRH {k i:Nat}(h:k<=i):cut ι2 s k i=none:=if_neg (by omega)
mutual
theorem zfy (k:Nat):∀ (x:AV) (v:Value),zEK k x=true->Rel ι2 fz w (Go.Proofs.YtngjhigieajkmaaGreatDoor.ren s x) v->Rel (cut ι2 s k) fz w x v
 | .i _ _,v,_,h=>by cases h;exact .i _ _
 | .b _,v,_,h=>by cases h;exact .b _
 | .v _,v,_,h=>by cases h;exact .v _
 | .lim _,v,_,h=>by
  cases h with
  | lim _ A len c hs hf=>exact .lim _ A len c hs hf
 | .fsl cs l,v,hi,h=>by
  rw [zOo] at h;have hi:zEK k (.agg cs)=true:=hi;rw [zEc] at hi;cases h with
  | fsl _ vs _ b o c hf hc hl hr=>exact .fsl cs vs l b o c hf hc hl (zF4 k true cs vs hi hr)
 | .fpt cs,v,hi,h=>by
  rw [zOn] at h;have hi:zEK k (.agg cs)=true:=hi;rw [zEc] at hi;cases h with
  | fpt _ vs b o hf hc hr=>exact .fpt cs vs b o hf hc (zF4 k true cs vs hi hr)
 | .sl id off len z cap,v,hi,h=>by
  have hi:id<k:=Ym hi;cases h with
  | sl _ _ _ _ _ b q c hi2 hs hl hc hm=>exact .sl id off len z cap b q c (by rw [zEv hi];exact hi2) hs hl hc hm
 | .ptr id off,v,hi,h=>by
  have hi:id<k:=Ym hi;cases h with
  | ptr _ _ b q hi2=>exact .ptr id off b q (by rw [zEv hi];exact hi2)
 | .map id,v,hi,h=>by
  have hi:id<k:=Ym hi;cases h with
  | map _ b q hi2=>exact .map id b q (by rw [zEv hi];exact hi2)
 | .agg cs,v,hi,h=>by
  rw [zEi] at h;rw [zEc] at hi;cases h with
  | agg _ vs hr=>exact .agg cs vs (zF4 k true cs vs hi hr)
 | .tup cs,v,hi,h=>by
  rw [zOp] at h;have hi:zEK k (.agg cs)=true:=hi;rw [zEc] at hi;cases h with
  | tup _ vs hr=>exact .tup cs vs (zF4 k false cs vs hi hr)
 | .fn f cs,v,hi,h=>by
  rw [zRg] at h;have hi:zEK k (.agg cs)=true:=hi;rw [zEc] at hi;cases h with
  | fn _ _ vs hr=>exact .fn f cs vs (zF4 k false cs vs hi hr)
 | .ifc t x,v,hi,h=>by
  cases h with
  | ifc _ _ u hr=>exact .ifc t x u (zfy k x u hi hr)
 | .any,v,_,h=>.any v
theorem zF4 (k:Nat) (c:Bool):∀ (xs:List AV) (vs:List Value),xs.all (zEK k)=true->zA5 ι2 fz w c (xs.map (Go.Proofs.YtngjhigieajkmaaGreatDoor.ren s)) vs->zA5 (cut ι2 s k) fz w c xs vs
 | [],vs,_,h=>by cases h;exact .nil c
 | x::xs,vs,hi,h=>by
  simp only [List.all_cons,Yi] at hi;cases h with
  | cons _ _ v _ vs hx hc hs=>exact .cons c x v xs vs (zfy k x v hi.1 hx) hc (zF4 k c xs vs hi.2 hs)
end
end
def zUE (k:Nat) (b:HB):Bool:=match b with
 | .cells cs=>cs.all (zEK k)
 | .map _=>false
theorem zVr {ι2:Io}{fz:Nat->Prop}{w:World}{s:Nat->Nat}{k b z:Nat}{hb:HB}(hi:zUE k hb=true) (h:zJH ι2 fz w b z (zM4 s hb)):zJH (cut ι2 s k) fz w b z hb:=by
 cases hb with
 | cells cs=>
  obtain ⟨vs,rest,t,h1,h2,h3⟩:=h;rw [zCN] at h2;exact ⟨vs,rest,t,h1,zF4 k true cs vs hi h2,h3⟩
 | map es=>cases hi
def zNt:Nat->Hp->Bool
 | _,[]=>true
 | n,p::r=>Nat.blt p.1 n && zNt p.1 r
theorem zIY:∀ {n:Nat}{H:Hp},zNt n H=true->zBc n H
 | _,[],_=>trivial
 | n,(i,b)::r,h=>by
  unfold zNt at h;simp only [Yi] at h;exact ⟨Ym h.1,zIY h.2⟩
def zWR (e:ME):Bool:=
 Nat.ble e.k e.n' && zEK e.k (.agg e.args) && zEK e.n' e.v && zNt e.k e.H && Nat.beq e.H.length e.k && e.H.all (fun p=>zUE e.k p.2) && zNt e.n' e.new && e.new.all (fun p=>Nat.ble e.k p.1 && zUE e.n' p.2)
theorem zLe:∀ {n:Nat}{H:Hp},zBc n H->H.length<=n
 | _,[],_=>Nat.zero_le _
 | n,(i,b)::r,h=>by
  have:=zLe h.2;have:=h.1;simp only [List.length_cons];omega
theorem zNx:∀ {H:Hp}{k:Nat},zBc k H->H.length=k->∀i,i<k->∃b,hget H i=some b
 | [],k,_,hl,i,hi=>by
  have:k=0:=hl.symm;omega
 | (j,b)::r,k,h,hl,i,hi=>by
  have h1:=zLe h.2;have h2:=h.1;simp only [List.length_cons] at hl;rw [zAY];by_cases e:j=i
  ·exact ⟨b,if_pos e⟩
  ·rw [if_neg e]
   have hj:r.length=j:=by omega
   exact zNx h.2 hj i (by omega)
theorem zE3:∀ {H:Hp}{i:Nat}{b:HB},hget H i=some b->(i,b)∈H
 | [],i,b,h=>by cases h
 | (j,c)::r,i,b,h=>by
  rw [zAY] at h;by_cases e:j=i
  ·rw [if_pos e] at h
   injection h with h
   subst e h;simp
  ·rw [if_neg e] at h
   exact List.mem_cons_of_mem _ (zE3 h)
theorem zGH:∀ (A H:Hp) (i:Nat),hget (A++H) i=(match hget A i with | some b=>some b | none=>hget H i)
 | [],H,i=>by rw [zGI];rfl
 | (j,c)::r,H,i=>by
  rw [List.cons_append,zAY,zAY,zGH r H i];by_cases e:j=i
  ·rw [if_pos e,if_pos e]
  ·rw [if_neg e,if_neg e]
theorem zJQ {s:Nat->Nat}{H2:Hp}:∀ {H:Hp},zR5 s H2 H=true->∀p∈H,hget H2 (s p.1)=some (zM4 s p.2)
 | [],_,p,hp=>by cases hp
 | q::H,h,p,hp=>by
  have h:Bool.and (Option.rec false (fun b=>zO4 (zM4 s q.2) b) (hget H2 (s q.1))) (zR5 s H2 H)=true:=h;simp only [Yi] at h;rcases List.mem_cons.1 hp with rfl | hp
  ·cases hg:hget H2 (s p.1) with
   | none=>rw [hg] at h;cases h.1
   | some b=>
    rw [hg] at h;rw [zO5 h.1]
  ·exact zJQ h.2 p hp
theorem zL4 (a:Nat):∀ {l:List Nat},(List.rec true (fun b _ ih=>Bool.and (Bool.not (Nat.beq a b)) ih) l:Bool)=true->a ∉ l
 | [],_=>by simp
 | b::l,h=>by
  have h:Bool.and (Bool.not (Nat.beq a b)) (List.rec true (fun b _ ih=>Bool.and (Bool.not (Nat.beq a b)) ih) l)=true:=h;simp only [Yi,Bool.not_eq_true'] at h;intro hm;rcases List.mem_cons.1 hm with rfl | hm
  ·have:=h.1;simp at this
  ·exact zL4 a h.2 hm
theorem zJ2:∀ {l:List Nat},zOb l=true->l.Nodup
 | [],_=>List.nodup_nil
 | a::l,h=>by
  have h:Bool.and (List.rec true (fun b _ ih=>Bool.and (Bool.not (Nat.beq a b)) ih) l) (zOb l)=true:=h;simp only [Yi] at h;exact List.nodup_cons.2 ⟨zL4 a h.1,zJ2 h.2⟩
theorem zJ3:∀ {l:List Nat},l.Nodup->∀ (i j:Nat) (hi:i<l.length) (hj:j<l.length),l[i]=l[j]->i=j
 | [],_,i,_,hi,_,_=>by simp at hi
 | a::l,h,0,0,_,_,_=>rfl
 | a::l,h,0,j+1,hi,hj,e=>by
  exfalso
  refine (List.nodup_cons.1 h).1 ?_;simp only [List.getElem_cons_zero,List.getElem_cons_succ] at e;rw [e];exact List.getElem_mem _
 | a::l,h,i+1,0,hi,hj,e=>by
  exfalso
  refine (List.nodup_cons.1 h).1 ?_;simp only [List.getElem_cons_zero,List.getElem_cons_succ] at e;rw [<- e];exact List.getElem_mem _
 | a::l,h,i+1,j+1,hi,hj,e=>by
  simp only [List.getElem_cons_succ] at e;rw [zJ3 (List.nodup_cons.1 h).2 i j (by simpa using hi) (by simpa using hj) e]
theorem zVe {sl:List Nat}{n k i:Nat}(h:i<k) (hl:sl.length=k):sg sl n k i=sl[i]'(by omega):=by
 unfold sg;rw [zQe,Yf (show Nat.succ i<=k from h),zE9,Yo (by omega)]
theorem zeT {sl:List Nat}{n k i:Nat}(h:k<=i):sg sl n k i=n+(i - k):=by
 unfold sg;rw [zQe,Ye (show ¬ Nat.succ i<=k by omega)];rfl
theorem zL0 {s:Nat->Nat}{H:Hp}:zQm s H=H.map fun p=>(s p.1,zM4 s p.2):=zCN _ _
theorem zLp {s:Nat->Nat}:∀ {A:Hp}{j:Nat},(∀p∈A,s p.1=s j->p.1=j)->hget (A.map fun p=>(s p.1,zM4 s p.2)) (s j)=(hget A j).map (zM4 s)
 | [],j,_=>rfl
 | (i,b)::r,j,h=>by
  rw [List.map_cons,zAY,zAY];by_cases e:i=j
  ·subst e
   rw [if_pos rfl,if_pos rfl];rfl
  ·rw [if_neg (fun e2=>e (h (i,b) (by simp) e2)),if_neg e,zLp fun p hp=>h p (by simp [hp])]
theorem zE4 {s:Nat->Nat}:∀ {A:Hp}{i:Nat},(∀p∈A,s p.1≠i)->hget (A.map fun p=>(s p.1,zM4 s p.2)) i=none
 | [],i,_=>rfl
 | (j,b)::r,i,h=>by
  rw [List.map_cons,zAY,if_neg (h (j,b) (by simp))];exact zE4 fun p hp=>h p (by simp [hp])
section
variable {P:Program}{G:Gl}{B:Big}
def zAK (P:Program) (G:Gl) (f:Nat) (e:ME):Prop:=zWR e=true/\zCu P G f e.args e.H e.k e.v (app e.new e.H) e.n'
structure zTg (e:ME):Prop where
 le:e.k<=e.n'
 args:e.args.all (zEK e.k)=true
 v:zEK e.n' e.v=true
 desc:zBc e.k e.H
 len:e.H.length=e.k
 ids:∀p∈e.H,zUE e.k p.2=true
 ndesc:zBc e.n' e.new
 nids:∀p∈e.new,e.k<=p.1/\zUE e.n' p.2=true
theorem zPd {e:ME}(h:zWR e=true):zTg e:=by
 unfold zWR at h;simp only [Yi,List.all_eq_true] at h;obtain ⟨⟨⟨⟨⟨⟨⟨h1,h2⟩,h3⟩,h4⟩,h5⟩,h6⟩,h7⟩,h8⟩:=h;exact ⟨Ym h1,by rw [<- zEc];exact h2,h3,zIY h4,Yg h5,h6,zIY h7,fun p hp=>⟨Ym (h8 p hp).1,(h8 p hp).2⟩⟩
structure zGR (e:ME) (args:List AV) (H:Hp) (s:Nat->Nat) (n:Nat):Prop where
 args:args=e.args.map (ren s)
 get:∀i b,hget e.H i=some b->hget H (s i)=some (zM4 s b)
 inj:∀i j,i<e.k->j<e.k->s i=s j->i=j
 new:∀i,e.k<=i->s i=n+(i - e.k)
theorem zH3 {e:ME}{args:List AV}{H:Hp}{n:Nat}{sl:List Nat}(h:zFe e args H n sl=true):zGR e args H (sg sl n e.k) n:=by
 unfold zFe at h;simp only [Yi] at h;obtain ⟨h1,h2,h3,h4⟩:=h;have hl:=Yg h1;rw [zCx] at hl;have h3:=zFE (.agg (zE7 (ren (sg sl n e.k)) e.args)) (.agg args) h3;injection h3 with h3
 rw [zCN] at h3;refine ⟨h3.symm,fun i b hb=>zJQ h4 (i,b) (zE3 hb),fun i j hi hj he=>?_,fun i hi=>zeT hi⟩;rw [zVe hi hl,zVe hj hl] at he;exact zJ3 (zJ2 h2) i j _ _ he
theorem zGR.old_lt {e:ME}{args:List AV}{H:Hp}{s:Nat->Nat}{n:Nat}(hm:zGR e args H s n) (hw:zTg e) (hD:zBc n H) {i:Nat}(hi:i<e.k):s i<n:=by
 obtain ⟨b,hb⟩:=zNx hw.desc hw.len i hi;exact hD.lt (hm.get i b hb)
theorem zGR.all_inj {e:ME}{args:List AV}{H:Hp}{s:Nat->Nat}{n:Nat}(hm:zGR e args H s n) (hw:zTg e) (hD:zBc n H) {i j:Nat}(he:s i=s j):i=j:=by
 by_cases hi:i<e.k
 ·by_cases hj:j<e.k
  ·exact hm.inj i j hi hj he
  ·have h1:=hm.old_lt hw hD hi
   have h2:=hm.new j (by omega);omega
 ·have h2:=hm.new i (by omega)
  by_cases hj:j<e.k
  ·have h1:=hm.old_lt hw hD hj
   omega
  ·have h3:=hm.new j (by omega)
   omega
theorem zGR.find {e:ME}{args:List AV}{H:Hp}{s:Nat->Nat}{n:Nat}(hm:zGR e args H s n) (hw:zTg e) (hD:zBc n H) (i:Nat) :
  (∃j b,e.k<=j/\j<e.n'/\i=s j/\hget e.new j=some b/\Go.Proofs.YtngjhigieajkmaaGreatDoor.hget (zQm s e.new++H) i=some (zM4 s b))\/
  (Go.Proofs.YtngjhigieajkmaaGreatDoor.hget (zQm s e.new++H) i=Go.Proofs.YtngjhigieajkmaaGreatDoor.hget H i/\∀j,hget e.new j≠none->i≠s j):=by
 rw [zGH,zL0];by_cases hx:∃p∈e.new,s p.1=i
 ·obtain ⟨⟨j,b0⟩,hp,rfl⟩:=hx
  obtain ⟨h1,_⟩:=hw.nids _ hp;have hex:∃b,Go.Proofs.YtngjhigieajkmaaGreatDoor.hget e.new j=some b:=by
   clear hm h1;generalize e.new=A at hp
   induction A with
   | nil=>cases hp
   | cons q A ih=>
    obtain ⟨q1,q2⟩:=q;rw [zAY];by_cases e:q1=j
    ·exact ⟨q2,if_pos e⟩
    ·rw [if_neg e]
     rcases List.mem_cons.1 hp with h | h
     ·injection h with h1 h2
      exact absurd h1.symm e
     ·exact ih h
  obtain ⟨b,hb⟩:=hex;refine .inl ⟨j,b,h1,hw.ndesc.lt hb,rfl,hb,?_⟩;rw [zLp fun p hp he=>hm.all_inj hw hD he,hb];rfl
 ·refine .inr ⟨?_,fun j hj he=>hx ?_⟩
  ·rw [zE4 fun p hp he=>hx ⟨p,hp,he⟩]
  ·cases hb:Go.Proofs.YtngjhigieajkmaaGreatDoor.hget e.new j with
   | none=>exact absurd hb hj
   | some b=>exact ⟨(j,b),zE3 hb,he.symm⟩
theorem zLf {s:Nat->Nat}{n k:Nat}{H:Hp}(hD:zBc n H) (hs:∀i,k<=i->s i=n+(i - k)):∀ {A:Hp}{m:Nat},zBc m A->k<=m->(∀p∈A,k<=p.1)->zBc (n+(m - k)) (A.map (fun p=>(s p.1,zM4 s p.2))++H)
 | [],m,_,hk,_=>hD.le (by omega)
 | (i,b)::r,m,h,hk,ha=>by
  have hi:=ha (i,b) (by simp);have h1:=h.1;simp only at hi;refine ⟨?_,?_⟩
  ·show s i<_
   rw [hs i hi];omega
  ·show zBc (s i) _
   rw [hs i hi];exact zLf hD hs h.2 hi fun p hp=>ha p (by simp [hp])
theorem zGR.later {e:ME}{args:List AV}{H:Hp}{s:Nat->Nat}{n:Nat}(hm:zGR e args H s n) (hw:zTg e) (hD:zBc n H):zCG n H (n+(e.n' - e.k)) (zQm s e.new++H):=by
 refine ⟨by omega,?_,fun id hi h=>?_⟩
 ·rw [zL0]
  exact zLf hD hm.new hw.ndesc hw.le fun p hp=>(hw.nids p hp).1
 ·rcases hm.find hw hD id with ⟨j,b,h1,_,h2,_⟩ | ⟨h1,_⟩
  ·have:=hm.new j h1
   omega
  ·rw [h1];exact h
theorem zGR.one {f:Nat}{e:ME}{args:List AV}{H:Hp}{s:Nat->Nat}{n:Nat}(hm:zGR e args H s n) (hw:zTg e) (hc:zCu P G f e.args e.H e.k e.v (app e.new e.H) e.n') :
  zCu P G f args H n (ren s e.v) (zQm s e.new++H) (n+(e.n' - e.k)):=by
 intro ι2 fz2 w vals hr hI hD hf;have hget1:∀i b,hget e.H i=some b->i<e.k:=fun i b h=>hw.desc.lt h
 have hrc:zA5 (cut ι2 s e.k) fz2 w false e.args vals:=by
  rw [hm.args] at hr;exact zF4 e.k false _ _ hw.args hr
 have hIc:Inv G (cut ι2 s e.k) fz2 (Go.Proofs.YtngjhigieajkmaaGreatDoor.hget e.H) w:=by
  refine ⟨fun i hb h=>?_,fun i j hi hj b z z' h1 h2 h3 h4=>?_,hI.fzlt,hI.gb,hI.gp⟩
  ·have hi:=hget1 i hb h
   obtain ⟨b,z,h1,h2,h3⟩:=hI.blk _ _ (hm.get i hb h);exact ⟨b,z,by rw [zEv hi];exact h1,h2,zVr (hw.ids _ (zE3 h)) h3⟩
  ·have hi':=hget1 i hi h1
   have hj':=hget1 j hj h2;rw [zEv hi'] at h3;rw [zEv hj'] at h4;exact hm.inj i j hi' hj' (hI.inj _ _ _ _ b z z' (hm.get i hi h1) (hm.get j hj h2) h3 h4)
 have trk1:∀b,Trk (Go.Proofs.YtngjhigieajkmaaGreatDoor.hget e.H) (cut ι2 s e.k) b->Trk (Go.Proofs.YtngjhigieajkmaaGreatDoor.hget H) ι2 b:=by
  rintro b ⟨i,hb,z,h1,h2⟩
  rw [zEv (hget1 i hb h1)] at h2;exact ⟨s i,_,z,hm.get i hb h1,h2⟩
 have hne:∀i,e.k<=i->i<e.n'->cut ι2 s e.k i=none:=fun i h _=>zRH h
 have back:∀ (u:Value) (w':World),(∃ι' fz',zB1 G (cut ι2 s e.k) fz2 (Go.Proofs.YtngjhigieajkmaaGreatDoor.hget e.H) e.k w ι' fz' (Go.Proofs.YtngjhigieajkmaaGreatDoor.hget (app e.new e.H)) e.n' w'/\Rel ι' fz' w' e.v u)->
   ∃ι' fz',zB1 G ι2 fz2 (Go.Proofs.YtngjhigieajkmaaGreatDoor.hget H) n w ι' fz' (Go.Proofs.YtngjhigieajkmaaGreatDoor.hget (zQm s e.new++H)) (n+(e.n' - e.k)) w'/\Rel ι' fz' w' (ren s e.v) u:=by
  rintro u w' ⟨ι',fz',hp,hv⟩
  rw [zEq] at hp;have hle:=hw.le
  let ι3:Io:=fun i=>if n<=i/\i<n+(e.n' - e.k) then ι' (e.k+(i - n)) else ι2 i
  have e_new:∀j,e.k<=j->j<e.n'->ι3 (s j)=ι' j:=fun j h1 h2=>by
   have h3:=hm.new j h1
   show (if n<=s j/\s j<n+(e.n' - e.k) then ι' (e.k+(s j - n)) else ι2 (s j))=_
   rw [if_pos (by omega),h3]
   congr 1
   omega
  have e_old:∀i,¬ (n<=i/\i<n+(e.n' - e.k))->ι3 i=ι2 i:=fun i h=>if_neg h
  have hren:∀i p,ι' i=some p->ι3 (s i)=some p:=fun i p h=>by
   by_cases hi:i<e.k
   ·have h1:=hm.old_lt hw hD hi
    have h2:=hp.out i (.inl hi);rw [h2,zEv hi] at h;rw [e_old _ (by omega)];exact h
   ·by_cases hi2:i<e.n'
    ·rw [e_new i (by omega) hi2];exact h
    ·rw [hp.out i (.inr (by omega)),zRH (by omega)] at h
     cases h
  have hext:∀i p,ι2 i=some p->ι3 i=some p:=fun i p h=>by
   by_cases hi:n<=i/\i<n+(e.n' - e.k)
   ·rw [hf i hi.1 hi.2] at h;cases h
   ·rw [e_old i hi];exact h
  have hfzk:∀b,fz2 b->w'.heap[b]? = w.heap[b]?:=hp.fz_same hIc;have hnewH:∀j b,e.k<=j->Go.Proofs.YtngjhigieajkmaaGreatDoor.hget e.new j=some b->Go.Proofs.YtngjhigieajkmaaGreatDoor.hget (e.new++e.H) j=some b:=fun j b _ h=>by rw [zGH,h]
  have holdH:∀i b,Go.Proofs.YtngjhigieajkmaaGreatDoor.hget e.H i=some b->Go.Proofs.YtngjhigieajkmaaGreatDoor.hget (e.new++e.H) i=some b:=fun i b h=>by
   rw [zGH];cases hx:Go.Proofs.YtngjhigieajkmaaGreatDoor.hget e.new i with
   | none=>exact h
   | some c=>
    have h1:=(hw.nids _ (zE3 hx)).1;have h2:=hget1 i b h;simp only at h1;omega
  have fresh:∀j b0 b z,e.k<=j->Go.Proofs.YtngjhigieajkmaaGreatDoor.hget e.new j=some b0->ι' j=some (b,z)->w.heap.size<=b:=fun j b0 b z h1 h2 h3=>by
   rcases hp.trk b ⟨j,b0,z,hnewH j b0 h1 h2,h3⟩ with ⟨i,hb,z',h4,h5⟩ | h4
   ·exfalso
    have:=hp.inv.inj j i b0 hb b z z' (hnewH j b0 h1 h2) (holdH i hb h4) h3 (hp.ext _ _ h5);have:=hget1 i hb h4;omega
   ·exact h4
  refine ⟨ι3,fz',⟨hext,fun i hi=>e_old i (by omega),hp.fzm,hp.fzn,hp.size,fun b hb hn=>hp.keep b hb (fun ht=>hn (trk1 b ht)),hp.os,hp.tape,hp.output,?_,?_⟩,Rel.ren hren hv⟩
  ·rintro b ⟨i,hb,z,h1,h2⟩
   rcases hm.find hw hD i with ⟨j,b0,h3,h4,rfl,h5,h6⟩ | ⟨h3,h4⟩
   ·rw [e_new j h3 h4] at h2
    exact .inr (fresh j b0 b z h3 h5 h2)
   ·rw [h3] at h1
    have:=hD.lt h1;rw [e_old i (by omega)] at h2;exact .inl ⟨i,hb,z,h1,h2⟩
  ·refine ⟨fun i hb h=>?_,fun i j hi hj b z z' h1 h2 h3 h4=>?_,hp.inv.fzlt,hp.inv.gb,hp.inv.gp⟩
   ·rcases hm.find hw hD i with ⟨j,b0,h3,h4,rfl,h5,h6⟩ | ⟨h3,h4⟩
    ·rw [h6] at h
     injection h with h
     subst h;obtain ⟨b,z,g1,g2,g3⟩:=hp.inv.blk j b0 (hnewH j b0 h3 h5);exact ⟨b,z,by rw [e_new j h3 h4];exact g1,g2,zJH.ren hren g3⟩
    ·rw [h3] at h
     have hlt:=hD.lt h;obtain ⟨b,z,g1,g2,g3⟩:=hI.blk i hb h;have hbs:=g3.lt;have hnf:¬ fz' b:=fun hh=>(hp.fzn b hh).elim g2 (fun h=>by omega)
     by_cases hs:∃i0 b0,Go.Proofs.YtngjhigieajkmaaGreatDoor.hget e.H i0=some b0/\s i0=i
     ·obtain ⟨i0,b0,k1,rfl⟩:=hs
      have k2:=hm.get i0 b0 k1;rw [k2] at h;injection h with h
      subst h;obtain ⟨b',z',k3,k4,k5⟩:=hp.inv.blk i0 b0 (holdH i0 b0 k1);have k6:=hren _ _ k3;exact ⟨b',z',k6,k4,zJH.ren hren k5⟩
     ·have zDo:w'.heap[b]? = w.heap[b]?:=hp.keep b hbs (by
       rintro ⟨i0,b0,z',k1,k2⟩
       rw [zEv (hget1 i0 b0 k1)] at k2;exact hs ⟨i0,b0,k1,hI.inj _ _ _ _ b z' z (hm.get i0 b0 k1) h k2 g1⟩)
      exact ⟨b,z,hext _ _ g1,hnf,g3.mono hext hp.fzm hfzk zDo⟩
   ·have old:∀i hi b z,Go.Proofs.YtngjhigieajkmaaGreatDoor.hget H i=some hi->ι3 i=some (b,z)->ι2 i=some (b,z)/\b<w.heap.size:=fun i hi b z k1 k2=>by
     have:=hD.lt k1;rw [e_old i (by omega)] at k2;obtain ⟨b',z',g1,g2,g3⟩:=hI.blk i hi k1;rw [k2] at g1;injection g1 with g1
     injection g1 with g1 g4
     subst g1;exact ⟨k2,g3.lt⟩
    rcases hm.find hw hD i with ⟨i0,b0,k3,k4,rfl,k5,k6⟩ | ⟨k3,k4⟩
    ·rw [e_new i0 k3 k4] at h3
     have hfr:=fresh i0 b0 b z k3 k5 h3;rcases hm.find hw hD j with ⟨j0,c0,l3,l4,rfl,l5,l6⟩ | ⟨l3,l4⟩
     ·rw [e_new j0 l3 l4] at h4
      rw [hp.inv.inj i0 j0 b0 c0 b z z' (hnewH _ _ k3 k5) (hnewH _ _ l3 l5) h3 h4]
     ·rw [l3] at h2
      have:=(old j hj b z' h2 h4).2;omega
    ·rw [k3] at h1
     obtain ⟨k5,k6⟩:=old i hi b z h1 h3;rcases hm.find hw hD j with ⟨j0,c0,l3,l4,rfl,l5,l6⟩ | ⟨l3,l4⟩
     ·rw [e_new j0 l3 l4] at h4
      have:=fresh j0 c0 b z' l3 l5 h4;omega
     ·rw [l3] at h2
      exact hI.inj i j hi hj b z z' h1 h2 k5 (old j hj b z' h2 h4).1
 rcases hc (cut ι2 s e.k) fz2 w vals hrc hIc hw.desc hne with ⟨u,w',h1,h2⟩ | ⟨h1,h2⟩
 ·exact .inl ⟨u,w',h1,back u w' h2⟩
 ·refine .inr ⟨h1,h2.mono fun en w' h=>?_⟩
  cases en with
  | returned u=>exact back u w' h
  | panicked=>exact h
  | outgrown=>exact h
theorem zGo {args:List AV}{H:Hp}{n:Nat}:∀ {l:List ME}{r:RV},zHv args H n l=some r->∃e∈l,∃sl,zFe e args H n sl=true/\r=.ok (ren (sg sl n e.k) e.v) (app (zQm (sg sl n e.k) e.new) H) (Nat.add n (Nat.sub e.n' e.k))
 | [],r,h=>by cases h
 | a::l,r,h=>by
  have h:(Option.rec (zHv args H n l) (fun r=>some r) (zTW a args H n):Option RV)=some r:=h;cases ht:zTW a args H n with
  | none=>
   rw [ht] at h;obtain ⟨e,he,h2⟩:=zGo (l:=l) h;exact ⟨e,by simp [he],h2⟩
  | some q=>
   rw [ht] at h;injection h with h
   subst h;obtain ⟨sl,h1,h2⟩:=zAW ht;cases hm:zFe a args H n sl
   ·rw [hm] at h2;cases h2
   ·rw [hm] at h2
    injection h2 with h2
    exact ⟨a,by simp,sl,hm,h2.symm⟩
theorem zG4 {f:Nat}{args:List AV}{H:Hp}{n:Nat}:∀ {M:List (Nat×List ME)}{r:RV},
  (List.rec none (fun p _ ih=>Bool.rec ih (zHv args H n p.2) (Nat.beq p.1 f)) M:Option RV)=some r->
   ∃p∈M,p.1=f/\∃e∈p.2,∃sl,zFe e args H n sl=true/\r=.ok (ren (sg sl n e.k) e.v) (app (zQm (sg sl n e.k) e.new) H) (Nat.add n (Nat.sub e.n' e.k))
 | [],r,h=>by cases h
 | p::M,r,h=>by
  have h:(Bool.rec (List.rec none (fun p _ ih=>Bool.rec ih (zHv args H n p.2) (Nat.beq p.1 f)) M) (zHv args H n p.2) (Nat.beq p.1 f):Option RV)=some r:=h;cases hf:Nat.beq p.1 f
  ·rw [hf] at h
   obtain ⟨q,h1,h2⟩:=zG4 (M:=M) h;exact ⟨q,by simp [h1],h2⟩
  ·rw [hf] at h
   exact ⟨p,by simp,Yg hf,zGo h⟩
structure zGQ (P:Program) (G:Gl) (B:Big):Prop where
 mix:P.follows .mixedOrders=true
 ti:zBV P B.E
 fn:zPl P B
 nat:zPo P G B
 memo:∀p∈B.memo,∀e∈p.2,zAK P G p.1 e
theorem zGQ.memoMono (h:zGQ P G B):zDF B:=fun f args H n r hm hD v H' n' hr=>by
 obtain ⟨p,hp,rfl,e,he,sl,hs,rfl⟩:=zG4 hm;injection hr with h1 h2 h3
 subst h1 h2 h3;rw [zEq];exact (zH3 hs).later (zPd (h.memo p hp e he).1) hD
theorem zGQ.memoOK (h:zGQ P G B):zLV P G B:=fun f args H n v H' n' hm=>by
 obtain ⟨p,hp,rfl,e,he,sl,hs,hr⟩:=zG4 hm;injection hr with h1 h2 h3
 subst h1 h2 h3;rw [zEq];exact (zH3 hs).one (zPd (h.memo p hp e he).1) (h.memo p hp e he).2
theorem zGQ.call (h:zGQ P G B) (m:Nat):zDV P G (zEI B (ev B m)):=zHo h.mix h.ti h.fn h.nat h.memoMono h.memoOK m
theorem zGQ.entry (h:zGQ P G B) (m f:Nat) (e:ME) (hw:zWR e=true) (hc:zEI B (ev B m) f e.args e.H e.k=.ok e.v (app e.new e.H) e.n'):zAK P G f e:=
 ⟨hw,h.call m f e.args e.H e.k _ _ _ hc⟩
theorem zAI (P:Program) (G:Gl):∀p∈([]:List (Nat×List ME)),∀e∈p.2,zAK P G p.1 e:=fun p hp=>by cases hp
theorem zAD {f:Nat}{l:List ME}{M:List (Nat×List ME)}(h1:∀e∈l,zAK P G f e) (h2:∀p∈M,∀e∈p.2,zAK P G p.1 e):∀p∈(f,l)::M,∀e∈p.2,zAK P G p.1 e:=by
 intro p hp e he;cases hp with
 | head=>exact h1 e he
 | tail _ hp=>exact h2 p hp e he
theorem zAJ (P:Program) (G:Gl) (f:Nat):∀e∈([]:List ME),zAK P G f e:=fun e h=>by cases h
theorem zAC {f:Nat}{a:ME}{l:List ME}(h1:zAK P G f a) (h2:∀e∈l,zAK P G f e):∀e∈a::l,zAK P G f e:=by
 intro e he;cases he with
 | head=>exact h1
 | tail _ he=>exact h2 e he
end
def zIm (n:Nat):Nat:=Bool.rec (Nat.succ (Nat.log2 n)) 0 (Nat.beq n 0)
def ktz (n:Nat):Nat:=Nat.log2 (Nat.gcd n (Nat.pow 2 (zIm n)))
theorem zEA (n:Nat):zIm n=zAT n:=by
 unfold zIm zAT;cases h:Nat.beq n 0
 ·rw [if_neg (Xl h)]
 ·rw [if_pos (Yg h)]
theorem zRX (n:Nat) (h:0<n):ktz n=tz n:=by
 obtain ⟨m,hm⟩:=zJC n h;have hb:=zDD n h;unfold ktz;rw [zEA];have h1:Nat.pow 2 (zAT n)=2^tz n*2^(zAT n - tz n):=by
  rw [<- Nat.pow_add,show tz n+(zAT n - tz n)=zAT n by omega];rfl
 have h2:Nat.gcd (2*m+1) (2^(zAT n - tz n))=1:=by
  have:Nat.Coprime (2*m+1) 2:=by
   unfold Nat.Coprime;rw [Nat.gcd_comm,Nat.gcd_rec,show (2*m+1)%2=1 by omega];exact Nat.gcd_one_left 2
  exact Nat.Coprime.pow_right _ this
 have h3:Nat.gcd n (Nat.pow 2 (zAT n))=2^tz n:=by
  rw [h1];generalize zAT n - tz n=j at h2 ⊢;generalize tz n=t at hm ⊢;rw [hm,Nat.gcd_mul_left,h2,Nat.mul_one]
 rw [h3,Nat.log2_two_pow]
structure KD where
 neg:Bool
 m:Nat
 e:Int
def KD.d (a:KD):Dy:=⟨a.neg,zAa a.m,a.e⟩
def kz:KD:=⟨false,0,.ofNat 0⟩
theorem zMy:kz.d=zAZ:=rfl
theorem zD2 {m:Nat}:zAa m=[] ↔ m=0:=by
 constructor
 ·intro h
  rw [<- zAH m,h];rfl
 ·intro h;subst h;rfl
def zV0 (v:Nat) (e:Int):Bool:=
 Bool.rec (Bool.and (Bool.and (Nat.ble (zIm v) 4096) (Bool.not (ltI e (.negSucc 16383)))) (Bool.and (Bool.not (ltI (.ofNat 16384) e)) (Bool.not (ltI (.ofNat 16384) (Int.add (.ofNat (zIm v)) e))))) true (Nat.beq v 0)
theorem zOH (v:Nat) (e:Int):zV0 v e=inR v e:=by
 unfold zV0 inR;cases h:Nat.beq v 0
 ·have h0:=Xl h
  dsimp only;rw [zEA,zB3,zB3,zB3];rw [Bool.eq_iff_iff];have e1:Int.negSucc 16383 = -16384:=rfl;have e2:Int.ofNat 16384=16384:=rfl;have e3:Int.add (Int.ofNat (zAT v)) e=(zAT v:Int)+e:=rfl;rw [e1,e2,e3];simp only [Yi,Bool.not_eq_true',decide_eq_false_iff_not,Xa,h0,false_or];have e4:Nat.ble (zAT v) 4096=true ↔ zAT v<=4096:=⟨Ym,Nat.ble_eq_true_of_le⟩;rw [e4];omega
 ·have h0:=Yg h
  subst h0;simp
def zF7 (a:KD):Bool:=Bool.rec (Bool.and (Nat.beq (Nat.mod a.m 2) 1) (zV0 a.m a.e)) (Bool.and (Bool.not a.neg) (eqI a.e (.ofNat 0))) (Nat.beq a.m 0)
theorem zQQ (k:Nat):(4294967296:Nat)^k=2^(32*k):=by
 rw [show (4294967296:Nat)=2^32 from rfl,<- Nat.pow_mul]
theorem zKn (m k:Nat) (h:zAT m<=32*k):(zAa m).length<=k:=by
 refine zBQ m k (Yh (zBu m) ?_);rw [zQQ];exact Xg (by omega) h
theorem zKo {m:Nat}(h:zAT m<=4096):(zAa m).length<=256:=zKn m 256 (by omega)
theorem zDp (a:KD):vld a.d=zF7 a:=by
 obtain ⟨neg,m,e⟩:=a;unfold zF7 KD.d;dsimp only;cases h:Nat.beq m 0
 ·have h0:=Xl h
  have hne:zAa m≠[]:=fun e=>h0 (zD2.1 e)
  have ht:(zAa m).getLast? ≠ some 0:=zDC m;have hq:Nat.beq (Nat.mod m 2) 1=decide (m%2=1):=by
   cases hq:Nat.beq (Nat.mod m 2) 1
   ·exact (Ye (Xl hq)).symm
   ·exact (Yf (Yg hq)).symm
  dsimp only;rw [zOH,hq];unfold vld inR;rw [<- Bool.decide_and];apply Xk.2
  simp only [hne,false_and,false_or,not_false_eq_true,ne_eq,true_and,ht,zAH,h0];constructor
  ·rintro ⟨_,h1,h2⟩;exact ⟨h1,h2⟩
  ·rintro ⟨h1,h2⟩;exact ⟨zKo h2.1,h1,h2⟩
 ·have h0:=Yg h
  subst h0;dsimp only;rw [zCI,zEm,zDl];rfl
def zHz (neg:Bool) (v:Nat) (e:Int):KD:=Bool.rec ⟨neg,Nat.div v (Nat.pow 2 (ktz v)),Int.add e (.ofNat (ktz v))⟩ kz (Nat.beq v 0)
theorem zJr (neg:Bool) (v:Nat) (e:Int):zAN neg v e=(zHz neg v e).d:=by
 unfold zAN zHz;cases h:Nat.beq v 0
 ·have h0:=Xl h
  rw [if_neg h0];dsimp only;rw [zRX v (by omega)];rfl
 ·rw [if_pos (Yg h)]
  rfl
structure KE where
 d:KD
 k:Nat
def kin (a:KD):KE:=Bool.rec ⟨kz,9⟩ ⟨a,0⟩ (zV0 a.m a.e)
def zE5 (neg:Bool) (v:Nat) (e:Int):KE:=kin (zHz neg v e)
theorem zC7 (neg:Bool) (v:Nat) (e:Int):zAu neg v e=((zE5 neg v e).d.d,((zE5 neg v e).k:Int)):=by
 unfold zAu zE5 kin;rw [zJr,KD.d];dsimp only;rw [zAH,zOH];cases inR (zHz neg v e).m (zHz neg v e).e <;> rfl
def zSb (a b:Int):Int:=Bool.rec a b (ltI b a)
theorem zOK (a b:Int):zSb a b=min a b:=by
 unfold zSb;rw [zB3];by_cases h:b<a
 ·rw [Yf h];dsimp only;omega
 ·rw [Ye h];dsimp only;omega
def zTi (m:Nat) (e lo:Int):Nat:=Nat.mul m (Nat.pow 2 (Int.toNat (Int.sub e lo)))
def zTs (a b:Bool):Bool:=Bool.rec (Bool.not b) b a
def zQO (neg neg':Bool) (P Q:Nat) (e:Int):KE:=
 Bool.rec (Bool.rec (zE5 neg (Nat.sub P Q) e) (zE5 neg' (Nat.sub Q P) e) (Nat.ble (Nat.succ P) Q)) (zE5 neg (Nat.add P Q) e) (zTs neg neg')
theorem zQP (neg neg':Bool) (P Q:Nat) (e:Int):zDB neg neg' P Q e=((zQO neg neg' P Q e).d.d,((zQO neg neg' P Q e).k:Int)):=by
 unfold zDB zQO;by_cases h:neg=neg'
 ·subst h
  have:zTs neg neg=true:=by cases neg <;> rfl
  rw [if_pos rfl,this];exact zC7 _ _ _
 ·have:zTs neg neg' = false:=by cases neg <;> cases neg' <;> first | rfl | exact absurd rfl h
  rw [if_neg h,this];dsimp only;rw [zQe];by_cases h2:P<Q
  ·rw [if_pos h2,Yf (show Nat.succ P<=Q from h2)]
   exact zC7 _ _ _
  ·rw [if_neg h2,Ye (show ¬ Nat.succ P<=Q from h2)]
   exact zC7 _ _ _
def zUK (a b:KD):KE:=
 Bool.rec (Bool.rec (zQO a.neg b.neg (zTi a.m a.e (zSb a.e b.e)) (zTi b.m b.e (zSb a.e b.e)) (zSb a.e b.e)) ⟨a,0⟩ (Nat.beq b.m 0)) ⟨b,0⟩ (Nat.beq a.m 0)
theorem zOO (a b:KD):zGM a.d b.d=((zUK a b).d.d,((zUK a b).k:Int)):=by
 unfold zGM zUK;cases h:Nat.beq a.m 0
 ·have h0:=Xl h
  rw [if_neg (show ¬ a.d.l=[] from fun e=>h0 (zD2.1 e))];cases h2:Nat.beq b.m 0
  ·have h3:=Xl h2
   rw [if_neg (show ¬ b.d.l=[] from fun e=>h3 (zD2.1 e))];dsimp only;rw [<- zQP];unfold zTi;rw [zOK];simp only [KD.d,zAH];rfl
  ·rw [if_pos (show b.d.l=[] from zD2.2 (Yg h2))]
   rfl
 ·rw [if_pos (show a.d.l=[] from zD2.2 (Yg h))]
  rfl
def zUG (a:KD):KD:=Bool.rec kz (Bool.rec ⟨Bool.not a.neg,a.m,a.e⟩ kz (Nat.beq a.m 0)) (zF7 a)
theorem vne (a:KD):(vld a.d=true/\a.d.l≠[]) ↔ (zF7 a=true/\a.m≠0):=by
 rw [zDp];exact and_congr_right fun _=>not_congr zD2
theorem zOL (a:KD):zEL a.d=(zUG a).d:=by
 unfold zEL zUG;simp only [vne];cases h:zF7 a
 ·simp [zMy]
 ·cases h2:Nat.beq a.m 0
  ·rw [if_pos ⟨rfl,Xl h2⟩];rfl
  ·rw [if_neg (fun hh=>hh.2 (Yg h2))];rfl
def zcY (a:KD):KD:=Bool.rec kz (Bool.rec ⟨false,a.m,a.e⟩ kz (Nat.beq a.m 0)) (zF7 a)
theorem zSX (a:KD):zTh a.d=(zcY a).d:=by
 unfold zTh zcY;simp only [vne];cases h:zF7 a
 ·simp [zMy]
 ·cases h2:Nat.beq a.m 0
  ·rw [if_pos ⟨rfl,Xl h2⟩];rfl
  ·rw [if_neg (fun hh=>hh.2 (Yg h2))];rfl
def ksg (a:KD):Int:=Bool.rec (Bool.rec (.ofNat 1) (.negSucc 0) a.neg) (.ofNat 0) (Nat.beq a.m 0)
def zUJ (a:KD):Int:=Bool.rec (.ofNat 0) (ksg a) (zF7 a)
theorem zK8 (a:KD):zBP a.d=zUJ a:=by
 unfold zBP zUJ ksg;simp only [vne];cases h:zF7 a
 ·simp
 ·cases h2:Nat.beq a.m 0
  ·rw [if_pos ⟨rfl,Xl h2⟩]
   show (if a.neg=true then -1 else 1:Int)=_
   cases a.neg <;> rfl
  ·rw [if_neg (fun hh=>hh.2 (Yg h2))];rfl
def zQK (a:KD):Int:=Bool.rec (.ofNat 0) (.ofNat (zIm a.m)) (zF7 a)
theorem zQL (a:KD):zMf a.d=zQK a:=by
 unfold zMf zQK;rw [zDp];cases h:zF7 a
 ·rfl
 ·simp only [if_true,KD.d,zAH,zEA];rfl
def zV1 (a:KD):Int:=Bool.rec (.ofNat 0) (Bool.rec (Int.add (.ofNat (zIm a.m)) a.e) (.ofNat 0) (Nat.beq a.m 0)) (zF7 a)
theorem zSe (a:KD):zCU a.d=zV1 a:=by
 unfold zCU zV1;simp only [vne];cases h:zF7 a
 ·simp
 ·cases h2:Nat.beq a.m 0
  ·rw [if_pos ⟨rfl,Xl h2⟩]
   simp only [KD.d,zAH,zEA];rfl
  ·rw [if_neg (fun hh=>hh.2 (Yg h2))];rfl
def zQM (x y:Nat):Int:=Bool.rec (Bool.rec (.ofNat 0) (.ofNat 1) (Nat.ble (Nat.succ y) x)) (.negSucc 0) (Nat.ble (Nat.succ x) y)
theorem zLu (x y:Nat):zCT x y=zQM x y:=by
 unfold zCT zQM;rw [zQe,zQe];by_cases h:x<y
 ·rw [if_pos h,Yf (show Nat.succ x<=y from h)];rfl
 ·rw [if_neg h,Ye (show ¬ Nat.succ x<=y from h)]
  by_cases h2:y<x
  ·rw [if_pos h2,Yf (show Nat.succ y<=x from h2)];rfl
  ·rw [if_neg h2,Ye (show ¬ Nat.succ y<=x from h2)];rfl
def ktp (a:KD):Int:=Int.add (.ofNat (zIm a.m)) a.e
def zQI (a b:KD):Int:=
 Bool.rec (Bool.rec (zQM (zTi a.m a.e (zSb a.e b.e)) (zTi b.m b.e (zSb a.e b.e))) (.ofNat 1) (ltI (ktp b) (ktp a))) (.negSucc 0) (ltI (ktp a) (ktp b))
theorem zRW (a:KD):((zAT (val a.d.l):Nat):Int)+a.d.e=ktp a:=by
 unfold ktp;simp only [KD.d,zAH,zEA];rfl
theorem zQJ (a b:KD):zHh a.d b.d=zQI a b:=by
 unfold zHh zQI;rw [zRW,zRW,zB3,zB3];by_cases h:ktp a<ktp b
 ·rw [if_pos h,Yf h];rfl
 ·rw [if_neg h,Ye h]
  by_cases h2:ktp b<ktp a
  ·rw [if_pos h2,Yf h2];rfl
  ·rw [if_neg h2,Ye h2]
   dsimp only;rw [<- zLu];unfold zTi;rw [zOK];simp only [KD.d,zAH];rfl
def zVz (a b:KD):Int:=
 Bool.rec (.ofNat 0) (Bool.rec (Bool.rec (Bool.rec (Bool.rec (zQI a b) (Int.neg (zQI a b)) a.neg) (.ofNat 0) (Nat.beq a.m 0)) (.ofNat 1) (ltI (ksg b) (ksg a))) (.negSucc 0) (ltI (ksg a) (ksg b))) (Bool.and (zF7 a) (zF7 b))
theorem zSZ (a b:KD):zCH a.d b.d=zVz a b:=by
 unfold zCH zVz;rw [zDp,zDp,zK8,zK8,zQJ];unfold zUJ;cases h1:zF7 a
 ·simp
 ·cases h2:zF7 b
  ·simp
  ·simp only [Bool.and_self,and_self,if_true]
   rw [zB3,zB3];by_cases h3:ksg a<ksg b
   ·rw [if_pos h3,Yf h3];rfl
   ·rw [if_neg h3,Ye h3]
    by_cases h4:ksg b<ksg a
    ·rw [if_pos h4,Yf h4];rfl
    ·rw [if_neg h4,Ye h4]
     dsimp only;have e0:ksg a=(Bool.rec (Bool.rec (.ofNat 1) (.negSucc 0) a.neg) (.ofNat 0) (Nat.beq a.m 0):Int):=rfl;cases h5:Nat.beq a.m 0
     ·rw [h5] at e0
      dsimp only;cases h6:a.neg
      ·rw [h6] at e0
       have e0:ksg a=1:=e0;rw [e0,if_neg (by decide),Int.one_mul]
      ·rw [h6] at e0
       have e0:ksg a = -1:=e0;rw [e0,if_neg (by decide),Int.neg_mul,Int.one_mul];rfl
     ·rw [h5] at e0
      have e0:ksg a=0:=e0;rw [e0,if_pos rfl];rfl
def zMu (a b:KD) (x:KE):KE:=Bool.rec ⟨kz,1⟩ x (Bool.and (zF7 a) (zF7 b))
theorem zIl (a b:KD) (x:KE) (y:Dy×Int) (h:y=(x.d.d,(x.k:Int))):(if vld a.d=true/\vld b.d=true then y else (zAZ,1))=((zMu a b x).d.d,((zMu a b x).k:Int)):=by
 unfold zMu;rw [zDp,zDp];cases h1:zF7 a
 ·simp [zMy]
 ·cases h2:zF7 b
  ·simp [zMy]
  ·simpa using h
def zcZ (a b:KD):KE:=zMu a b (zUK a b)
theorem zSY (a b:KD):zCP a.d b.d=((zcZ a b).d.d,((zcZ a b).k:Int)):=zIl a b _ _ (zOO a b)
def zcc (a b:KD):KE:=zMu a b (zUK a (zUG b))
theorem zSd (a b:KD):zHI a.d b.d=((zcc a b).d.d,((zcc a b).k:Int)):=zIl a b _ _ (by rw [zOL];exact zOO a (zUG b))
def zcb (a b:KD):KE:=zMu a b (zE5 (Bool.not (zTs a.neg b.neg)) (Nat.mul a.m b.m) (Int.add a.e b.e))
theorem zSc (a b:KD):zUR a.d b.d=((zcb a b).d.d,((zcb a b).k:Int)):=zIl a b _ _ (by
 rw [<- zC7];simp only [KD.d,zAH];have:(a.neg != b.neg)=Bool.not (zTs a.neg b.neg):=by cases a.neg <;> cases b.neg <;> rfl
 rw [this];rfl)
def zMw (e:Int):Bool:=Bool.and (Bool.not (ltI e (.negSucc 32767))) (Bool.not (ltI (.ofNat 32768) e))
theorem zLv (e:Int):zNP e=zMw e:=by
 unfold zNP zMw;rw [zB3,zB3,Bool.eq_iff_iff];have e1:Int.negSucc 32767 = -32768:=rfl;have e2:Int.ofNat 32768=32768:=rfl;rw [e1,e2];simp only [Yi,Xa,Bool.not_eq_true',decide_eq_false_iff_not];omega
def zLw (a:KD) (k:Int):KE:=Bool.rec ⟨kz,1⟩ (zE5 a.neg a.m (Int.add a.e k)) (Bool.and (zF7 a) (zMw k))
theorem zON (a:KD) (k:Int):zIF a.d k=((zLw a k).d.d,((zLw a k).k:Int)):=by
 unfold zIF zLw;rw [zDp,zLv];cases h1:zF7 a
 ·simp [zMy]
 ·cases h2:zMw k
  ·simp [zMy]
  ·simp only [and_self,if_true,Bool.and_self]
   rw [<- zC7];simp only [KD.d,zAH];rfl
def zca (n:Int):KD:=zHz (ltI n (.ofNat 0)) n.natAbs (.ofNat 0)
theorem zOI (n:Int):zNQ n=(zca n).d:=by
 unfold zNQ zca;rw [<- zJr,zB3];rfl
section
variable {P:Program}{G:Gl}
def zA2 (P:Program) (G:Gl) (f:Nat) (H:Hp) (args:List AV) (v:AV):Prop:=∀ι fz w vals,zA5 ι fz w false args vals->Inv G ι fz (hget H) w->
 Calls P f vals.toArray w fun e w'=>∃u,e=.returned u/\Below w.heap.size w w'/\∀fz':Nat->Prop,(∀b,fz b->fz' b)->(∀b,w.heap.size<=b->b<w'.heap.size->fz' b)->Rel ι fz' w' v u
theorem zA2.one {f:Nat}{fn:Func}{c:Code}(hfn:P.funcs[f]? = some fn) (hname:(fn.name == "runtime.NumGoroutine")=false) (hb:fn.body=some c) {H:Hp}{args:List AV}{v:AV}
  (h:zA2 P G f H args v) (n:Nat):zCu P G f args H n v H n:=by
 intro ι fz w vals hr hI hD hf;refine .inr ⟨?_,(h ι fz w vals hr hI).mono ?_⟩
 ·have hname':¬ fn.name = "runtime.NumGoroutine":=by simpa using hname
  simp [callFunc,hfn,hname',hb]
 ·rintro e w' ⟨u,rfl,hB,hrel⟩
  refine ⟨ι,fun b=>fz b\/(w.heap.size<=b/\b<w'.heap.size),?_,hrel _ (fun _ h=>.inl h) fun b h1 h2=>.inr ⟨h1,h2⟩⟩;have hfzk:∀b,fz b->w'.heap[b]? = w.heap[b]?:=fun b hb=>hB.block b (hI.fzlt b hb)
  refine ⟨fun _ _ h=>h,fun _ _=>rfl,fun _ h=>.inl h,fun b h=>h.elim .inl fun h=>.inr h.1,hB.size,fun b hb _=>hB.block b hb,hB.os,hB.tape,hB.output,fun b h=>.inl h,?_⟩;refine ⟨fun id hb e=>?_,hI.inj,fun b h=>h.elim (fun h=>Yh (hI.fzlt b h) hB.size) fun h=>h.2,fun b h=>.inl (hI.gb b h),G.keep w w' hI.gp fun b hb=>hfzk b (hI.gb b hb)⟩;obtain ⟨b,s,hi,hn,hk⟩:=hI.blk id hb e;have hlt:=hk.lt;exact ⟨b,s,hi,fun h=>h.elim hn fun h=>by omega,hk.mono (fun _ _ h=>h) (fun _ h=>.inl h) hfzk (hB.block b hlt)⟩
end
def zV2 (l:List AV):Option Nat:=
 List.rec (some 0) (fun a _ ih=>match a with
  | .i .u32 (.ofNat d)=>zA6 ih fun r=>Bool.rec none (some (Nat.add d (Nat.mul 4294967296 r))) (Nat.ble d 4294967295)
  | _=>none) l
def kw (H:Hp) (x:AV):Option Nat:=
 match x with
 | .lim n=>Bool.rec none (some n) (Nat.ble (zER n) 256)
 | .v (.slice none 0 0)=>some 0
 | .sl id off len 1 cap=>Bool.rec none (zA6 (zBR H 1 len (.sl id off len 1 cap)) zV2) (Nat.ble len 256)
 | _=>none
def kl (H:Hp) (x:AV):Option Nat:=
 match x with
 | .sl id off len k cap=>zA6 (kw H (.sl id off len k cap)) fun m=>Bool.rec none (some m) (Nat.beq (zER m) len)
 | x=>kw H x
def kd (H:Hp) (x:AV):Option KD:=
 match x with
 | .agg [.b neg,m,.i .i64 e]=>zA6 (kl H m) fun m=>some ⟨neg,m,e⟩
 | _=>none
section
variable {P:Program}{G:Gl}{ι:Io}{fz:Nat->Prop}{H:Hp}{w:World}
theorem zOP (a:AV) (cs:List AV):zV2 (a::cs)=(match a with
  | .i .u32 (.ofNat d)=>zA6 (zV2 cs) fun r=>Bool.rec none (some (Nat.add d (Nat.mul 4294967296 r))) (Nat.ble d 4294967295)
  | _=>none):=rfl
theorem zJu:∀ {cs:List AV}{m:Nat}{vs:List Value},zV2 cs=some m->zA5 ι fz w true cs vs->∃l:List Nat,vs=l.map (fun x:Nat=>Value.int .u32 (x:Int))/\zAV l/\val l=m
 | [],m,vs,h,hr=>by
  cases h;cases hr;exact ⟨[],rfl,(fun x hx=>by cases hx),rfl⟩
 | a::cs,m,vs,h,hr=>by
  rw [zOP] at h
  split at h
  ·rename_i d
   obtain ⟨r,h1,h2⟩:=zAW h;cases hr with
   | cons _ _ u _ us hu _ hs=>
    obtain ⟨l,rfl,hl,hv⟩:=zJu h1 hs;cases hd:Nat.ble d 4294967295
    ·rw [hd] at h2;cases h2
    ·rw [hd] at h2
     cases h2;have hd:=Ym hd;cases hu;refine ⟨d::l,rfl,?_,?_⟩
     ·intro x hx
      rcases List.mem_cons.1 hx with rfl | hx
      ·omega
      ·exact hl x hx
     ·rw [<- hv];rfl
  ·cases h
theorem zEg {x:AV}{m:Nat}{u:Value}(h:kw H x=some m) (hI:Inv G ι fz (hget H) w) (hr:Rel ι fz w x u) :
  ∃A n c l,u=.slice A n c/\SL w A n c l/\val l=m/\n<=256/\((∃id off k cap,x=.sl id off n k cap)\/l=zAa m):=by
 unfold kw at h
 split at h
 ·rename_i k
  cases hb:Nat.ble (zER k) 256
  ·rw [hb] at h;cases h
  ·rw [hb] at h
   cases h;obtain ⟨A,n,c,rfl,hs,_⟩:=zG9 hr;have:=Ym hb;rw [zDq,hs.len] at this;exact ⟨A,n,c,_,rfl,hs,zAH _,this,.inr rfl⟩
 ·cases h
  cases hr;exact ⟨none,0,0,[],rfl,⟨rfl,Ya _,by omega,(fun x hx=>by cases hx),fun h=>absurd h (by omega)⟩,rfl,by omega,.inr rfl⟩
 ·rename_i id off len cap
  cases hb:Nat.ble len 256
  ·rw [hb] at h;cases h
  ·rw [hb] at h
   dsimp only at h;have hlen:=Ym hb;obtain ⟨cs,h1,h3⟩:=zAW h;cases hr with
   | sl _ _ _ _ _ b s c' hi hs hl hcap hmx=>
    unfold zBR at h1;dsimp only at h1
    split at h1
    ·rename_i cs0 e
     obtain ⟨b',s',hi',hnf,vs,rest,ty,g1,g2,g3⟩:=hI.blk id _ e;rw [hi] at hi';injection hi' with hi'
     injection hi' with e1 e2
     subst e1 e2;rw [zBr] at h1;obtain ⟨rfl,hl2⟩:=zCe h1;have hr2:=(g2.drop off).take (Nat.mul len 1);obtain ⟨l,hvs,hL,hval⟩:=zJu h3 hr2;have hlen2:l.length=len:=by
      have:=hr2.len;rw [hl2,hvs,Xe] at this;rw [<- this];exact Nat.mul_one len
     refine ⟨_,_,_,l,rfl,⟨hlen2,hl,by omega,hL,fun _=>⟨b,off,rfl,(Yv.1 g1).1,fun j x hj=>?_⟩⟩,hval,hlen,.inl ⟨_,_,_,_,rfl⟩⟩;have hjl:j<len:=by rw [<- hlen2];exact (Yb.1 hj).1
     have hv2:(vs.drop off)[j]? = some (.int .u32 (x:Int)):=by
      have:((vs.drop off).take (Nat.mul len 1))[j]? = some (.int .u32 (x:Int)):=by rw [hvs,List.getElem?_map,hj];rfl
      rwa [Xf (show j<Nat.mul len 1 by rw [show Nat.mul len 1=len from Nat.mul_one len];exact hjl)] at this
     have:=zBY (zEZ g1) off j _ hv2
     rwa [Nat.zero_add] at this
    ·cases h1
 ·cases h
theorem zOJ {x:AV}{m:Nat}{u:Value}(h:kl H x=some m) (hI:Inv G ι fz (hget H) w) (hr:Rel ι fz w x u):∃A n c,u=.slice A n c/\SL w A n c (zAa m)/\n<=256:=by
 unfold kl at h
 split at h
 ·rename_i id off len k cap
  obtain ⟨m',h1,h2⟩:=zAW h;cases hn:Nat.beq (zER m') len
  ·rw [hn] at h2;cases h2
  ·rw [hn] at h2
   cases h2;have hn:=Yg hn;rw [zDq] at hn;obtain ⟨A,n,c,l,rfl,hs,hv,h256,⟨_,_,_,_,e⟩ | rfl⟩:=zEg h1 hI hr
   ·injection e with _ _ e
    subst e;have:=zJa l hs.lt;rw [hv,hn,<- hs.len,List.take_length] at this;exact ⟨A,_,c,rfl,this ▸ hs,h256⟩
   ·exact ⟨A,n,c,rfl,hs,h256⟩
 ·rename_i hx
  obtain ⟨A,n,c,l,rfl,hs,hv,h256,⟨_,_,_,_,e⟩ | rfl⟩:=zEg h hI hr
  ·exact absurd e (hx _ _ _ _ _)
  ·exact ⟨A,n,c,rfl,hs,h256⟩
theorem zIn {x:AV}{a:KD}{u:Value}(h:kd H x=some a) (hI:Inv G ι fz (hget H) w) (hr:Rel ι fz w x u) :
  ∃A n c,u=.agg #[.bool a.neg,.slice A n c,.int .i64 a.e]/\SL w A n c (zAa a.m)/\n<=256:=by
 unfold kd at h
 split at h
 ·rename_i neg m e
  obtain ⟨k,h1,h2⟩:=zAW h;cases h2;cases hr with
  | agg _ vs hvs=>
   cases hvs with
   | cons _ _ v1 _ vs hv1 _ hvs=>
    cases hvs with
    | cons _ _ v2 _ vs hv2 _ hvs=>
     cases hvs with
     | cons _ _ v3 _ vs hv3 _ hvs=>
      cases hvs;cases hv1;cases hv3;obtain ⟨A,n,c,rfl,hs,hn⟩:=zOJ h1 hI hv2;exact ⟨A,n,c,rfl,hs,hn⟩
 ·cases h
def vz:AV:=.i .i64 (.ofNat 0)
def vd (a:KD):AV:=.agg [.b a.neg,.lim a.m,.i .i64 a.e]
def ve (a:KE):AV:=.tup [vd a.d,.i .i64 (.ofNat a.k)]
theorem zK9 {w':World}{A:Option Addr}{n c m:Nat}{fz':Nat->Prop}(hs:SL w' A n c (zAa m)) (hf:zAn w.heap.size A n) (hfz:∀b,w.heap.size<=b->b<w'.heap.size->fz' b):Rel ι fz' w' (.lim m) (.slice A n c):=
 .lim m A n c hs fun ad e hl=>by
  obtain ⟨b,off,e2,hb,_⟩:=hs.at_ hl;obtain ⟨ad',e3,h4⟩:=hf hl;rw [e] at e3;injection e3 with e3
  subst e3;rw [e] at e2;injection e2 with e2
  subst e2;exact hfz b h4 hb
def zCa (v:AV) (w:World) (e:Ending) (w':World):Prop:=
 ∃u,e=.returned u/\Below w.heap.size w w'/\∀ (ι:Io) (fz':Nat->Prop),(∀b,w.heap.size<=b->b<w'.heap.size->fz' b)->Rel ι fz' w' v u
theorem zCf {e:Ending}{w':World}{x:Int}(h:e=.returned (.int .i64 x)/\Below w.heap.size w w'):zCa (.i .i64 x) w e w':=⟨_,h.1,h.2,fun _ _ _=>.i _ _⟩
theorem zMr {e:Ending}{w':World}{x:Bool}(h:e=.returned (.bool x)/\Below w.heap.size w w'):zCa (.b x) w e w':=⟨_,h.1,h.2,fun _ _ _=>.b _⟩
theorem zSL {e:Ending}{w':World}{m:Nat}(h:zPh (zAa m) w e w'):zCa (.lim m) w e w':=by
 obtain ⟨A,n,c,rfl,hs,hf,hb⟩:=h;exact ⟨_,rfl,hb,fun _ _ hz=>zK9 hs hf hz⟩
theorem zGv {e:Ending}{w':World}{m:Nat}(h:zTf (zAa m) w e w'):zCa (.tup [.lim m,vz]) w e w':=by
 obtain ⟨A,n,c,rfl,hs,hf,hb⟩:=h;exact ⟨_,rfl,hb,fun _ _ hz=>.tup _ [_,_] (.cons _ _ _ _ _ (zK9 hs hf hz) (fun e=>by cases e) (.cons _ _ _ _ _ (.i _ _) (fun e=>by cases e) (.nil _)))⟩
theorem zRr {w':World}{A:Option Addr}{n c:Nat}{a:KD}{fz':Nat->Prop}(hs:SL w' A n c (zAa a.m)) (hf:zAn w.heap.size A n) (hfz:∀b,w.heap.size<=b->b<w'.heap.size->fz' b) :
  Rel ι fz' w' (vd a) (.agg #[.bool a.neg,.slice A n c,.int .i64 a.e]):=
 .agg _ [_,_,_] (.cons _ _ _ _ _ (.b _) (fun _=>rfl) (.cons _ _ _ _ _ (zK9 hs hf hfz) (fun _=>rfl) (.cons _ _ _ _ _ (.i _ _) (fun _=>rfl) (.nil _))))
theorem zIe {e:Ending}{w':World}{x:Dy}{a:KD}(hx:x=a.d) (h:zNV x w e w'):zCa (vd a) w e w':=by
 subst hx;obtain ⟨A,n,c,rfl,hs,hf,hb⟩:=h;exact ⟨_,rfl,hb,fun _ _ hz=>zRr hs hf hz⟩
theorem zGu {e:Ending}{w':World}{x:Dy×Int}{a:KE}(hx:x=(a.d.d,(a.k:Int))) (h:zJI x.1 x.2 w e w'):zCa (ve a) w e w':=by
 subst hx;obtain ⟨A,n,c,rfl,hs,hf,hb⟩:=h;exact ⟨_,rfl,hb,fun _ _ hz=>.tup _ [_,_] (.cons _ _ _ _ _ (zRr hs hf hz) (fun e=>by cases e) (.cons _ _ _ _ _ (.i _ _) (fun e=>by cases e) (.nil _)))⟩
theorem zCa.yields {f:Nat}{args:List AV}{v:AV}(h:∀ι fz w vals,zA5 ι fz w false args vals->Inv G ι fz (hget H) w->Calls P f vals.toArray w (zCa v w)):zA2 P G f H args v:=fun ι fz w vals hr hI=>
 (h ι fz w vals hr hI).mono fun _ _ ⟨u,h1,h2,h3⟩=>⟨u,h1,h2,fun fz' _ hz=>h3 ι fz' hz⟩
end
def on1 (f:Nat->Option AV):zAz:=fun H a=>match a with | [x]=>zA6 (kw H x) f | _=>none
def on2 (f:Nat->Nat->Option AV):zAz:=fun H a=>match a with | [x,y]=>zA6 (kw H x) fun m=>zA6 (kw H y) (f m) | _=>none
def onK (f:Nat->Nat->Option AV):zAz:=fun H a=>match a with | [x,.i .i64 (.ofNat k)]=>zA6 (kw H x) fun m=>f m k | _=>none
def od1 (f:KD->AV):zAz:=fun H a=>match a with | [x]=>zA6 (kd H x) fun m=>some (f m) | _=>none
def od2 (f:KD->KD->AV):zAz:=fun H a=>match a with | [x,y]=>zA6 (kd H x) fun m=>zA6 (kd H y) fun k=>some (f m k) | _=>none
section
variable {P:Program}{G:Gl}{H:Hp}{args:List AV}{v:AV}{k:Nat}
theorem zM1 {f:Nat->Option AV}(h:on1 f H args=some v) (hc:∀A n c l w,SL w A n c l->n<=256->G.p w->f (val l)=some v->Calls P k #[.slice A n c] w (zCa v w)):zA2 P G k H args v:=by
 refine zCa.yields fun ι fz w vals hr hI=>?_
 unfold on1 at h
 split at h
 ·rename_i x
  obtain ⟨m,h1,h2⟩:=zAW h;cases hr with
  | cons _ _ u _ us hu _ hs=>
   cases hs;obtain ⟨A,n,c,l,rfl,h3,rfl,h4,_⟩:=zEg h1 hI hu;exact hc A n c l w h3 h4 hI.gp h2
 ·cases h
theorem zEC {f:Nat->Nat->Option AV}(h:on2 f H args=some v) (hc:∀A n c l B n' c' l' w,SL w A n c l->n<=256->SL w B n' c' l'->n' <= 256->G.p w->f (val l) (val l')=some v->Calls P k #[.slice A n c,.slice B n' c'] w (zCa v w)):zA2 P G k H args v:=by
 refine zCa.yields fun ι fz w vals hr hI=>?_
 unfold on2 at h
 split at h
 ·rename_i x y
  obtain ⟨m,h1,h2⟩:=zAW h;obtain ⟨m',h5,h6⟩:=zAW h2;cases hr with
  | cons _ _ u _ us hu _ hs=>
   cases hs with
   | cons _ _ u' _ us' hu' _ hs=>
    cases hs;obtain ⟨A,n,c,l,rfl,h3,rfl,h4,_⟩:=zEg h1 hI hu;obtain ⟨B,n',c',l',rfl,h7,rfl,h8,_⟩:=zEg h5 hI hu';exact hc A n c l B n' c' l' w h3 h4 h7 h8 hI.gp h6
 ·cases h
theorem zH7 {f:Nat->Nat->Option AV}(h:onK f H args=some v) (hc:∀A n c l (j:Nat) w,SL w A n c l->n<=256->G.p w->f (val l) j=some v->Calls P k #[.slice A n c,.int .i64 (j:Int)] w (zCa v w)):zA2 P G k H args v:=by
 refine zCa.yields fun ι fz w vals hr hI=>?_
 unfold onK at h
 split at h
 ·rename_i x j
  obtain ⟨m,h1,h2⟩:=zAW h;cases hr with
  | cons _ _ u _ us hu _ hs=>
   cases hs with
   | cons _ _ u' _ us' hu' _ hs=>
    cases hs;cases hu';obtain ⟨A,n,c,l,rfl,h3,rfl,h4,_⟩:=zEg h1 hI hu;exact hc A n c l j w h3 h4 hI.gp h2
 ·cases h
theorem zCY {f:KD->AV}(h:od1 f H args=some v) (hc:∀A n c (a:KD) w,SL w A n c (zAa a.m)->n<=256->G.p w->Calls P k #[.agg #[.bool a.neg,.slice A n c,.int .i64 a.e]] w (zCa (f a) w)):zA2 P G k H args v:=by
 refine zCa.yields fun ι fz w vals hr hI=>?_
 unfold od1 at h
 split at h
 ·rename_i x
  obtain ⟨m,h1,h2⟩:=zAW h;cases h2;cases hr with
  | cons _ _ u _ us hu _ hs=>
   cases hs;obtain ⟨A,n,c,rfl,h3,h4⟩:=zIn h1 hI hu;exact hc A n c m w h3 h4 hI.gp
 ·cases h
theorem zEB {f:KD->KD->AV}(h:od2 f H args=some v) (hc:∀A n c (a:KD) B n' c' (b:KD) w,SL w A n c (zAa a.m)->n<=256->SL w B n' c' (zAa b.m)->n' <= 256->G.p w->Calls P k #[.agg #[.bool a.neg,.slice A n c,.int .i64 a.e],.agg #[.bool b.neg,.slice B n' c',.int .i64 b.e]] w (zCa (f a b) w)):zA2 P G k H args v:=by
 refine zCa.yields fun ι fz w vals hr hI=>?_
 unfold od2 at h
 split at h
 ·rename_i x y
  obtain ⟨m,h1,h2⟩:=zAW h;obtain ⟨m',h5,h6⟩:=zAW h2;cases h6;cases hr with
  | cons _ _ u _ us hu _ hs=>
   cases hs with
   | cons _ _ u' _ us' hu' _ hs=>
    cases hs;obtain ⟨A,n,c,rfl,h3,h4⟩:=zIn h1 hI hu;obtain ⟨B,n',c',rfl,h7,h8⟩:=zIn h5 hI hu';exact hc A n c m B n' c' m' w h3 h4 h7 h8 hI.gp
 ·cases h
end
def ztU (x:Nat):Option AV:=Bool.rec none (some (.tup [.lim x,vz])) (Nat.ble (zER x) 256)
def zRb:zAz:=on1 fun m=>some (.i .i64 (.ofNat (zIm m)))
def zLD:zAz:=fun H a=>match a with | [x]=>zA6 (kl H x) fun m=>some (.lim m) | _=>none
def zVJ:zAz:=on2 fun a b=>some (.i .i64 (zQM a b))
def zVI:zAz:=on2 fun a b=>ztU (Nat.add a b)
def zVK:zAz:=on2 fun a b=>ztU (Nat.mul a b)
def zVN:zAz:=on2 fun a b=>Bool.rec none (some (.tup [.lim (Nat.sub a b),vz])) (Nat.ble b a)
def zVL:zAz:=onK fun m k=>Bool.rec none (ztU (Nat.mul m (Nat.pow 2 k))) (Nat.ble k 65536)
def zVM:zAz:=onK fun m k=>Bool.rec none (some (.tup [.lim (Nat.div m (Nat.pow 2 k)),vz])) (Nat.ble k 65536)
def zH5:zAz:=fun _ a=>match a with | [.lim m]=>some (.lim m) | [.v (.slice none 0 0)]=>some (.v (.slice none 0 0)) | _=>none
def zNv:zAz:=od1 fun a=>.b (zF7 a)
def zRJ:zAz:=od1 fun a=>.i .i64 (zUJ a)
def zRI:zAz:=od1 fun a=>.i .i64 (zQK a)
def zT6:zAz:=od1 fun a=>.i .i64 (zV1 a)
def zT4:zAz:=od1 fun a=>vd (zUG a)
def zT0:zAz:=od1 fun a=>vd (zcY a)
def zT2:zAz:=od2 fun a b=>.i .i64 (zVz a b)
def zT1:zAz:=od2 fun a b=>ve (zcZ a b)
def zT5:zAz:=od2 fun a b=>ve (zcc a b)
def zT3:zAz:=od2 fun a b=>ve (zcb a b)
def zKl:zAz:=fun H a=>match a with | [x,.i .i64 k]=>zA6 (kd H x) fun m=>some (ve (zLw m k)) | _=>none
def zNu:zAz:=fun H a=>match a with | [.b neg,x,.i .i64 e]=>zA6 (kw H x) fun m=>Bool.rec none (some (ve (zE5 neg m e))) (zMw e) | _=>none
def zSD:zAz:=fun _ a=>match a with | [.i .i64 k]=>Bool.rec none (some (vd (zca k))) (Bool.and (Bool.not (ltI (.ofNat 9223372036854775807) k)) (Bool.not (ltI k (.negSucc 9223372036854775807)))) | _=>none
def zOa:zAz:=fun _ a=>match a with | [.i .u64 (.ofNat x)]=>Bool.rec none (some (.i .i64 (.ofNat (ktz x)))) (Bool.and (Nat.ble 1 x) (Nat.ble x 18446744073709551615)) | _=>none
open Go.Shelf
def glo:Gl where
 B b:=b=1\/b=0
 p w:=zBx w/\TabAt 0 Lib.deBruijn64tab w
 keep w w' h hb:=by
  refine ⟨fun j hj=>?_,fun j hj=>?_⟩
  ·rw [<- h.1 j hj];simp only [World.cell?,hb _ (.inl rfl)]
  ·rw [<- h.2 j hj];simp only [World.cell?,hb _ (.inr rfl)]
abbrev zAF (f:Nat) (nf:zAz):Prop:=∀H args v,nf H args=some v->∀n,zCu Tryz.prog glo f args H n v H n
theorem zFm {x:Nat}{v:AV}(h:ztU x=some v):(zAa x).length<=256/\v=.tup [.lim x,vz]:=by
 unfold ztU at h;cases hb:Nat.ble (zER x) 256
 ·rw [hb] at h;cases h
 ·rw [hb] at h
  cases h;have:=Ym hb;rw [zDq] at this;exact ⟨this,rfl⟩
theorem zQZ:zAF 141 zRb:=fun H args v h n=>by
 refine zA2.one Tryz.func141 (by kernel_rfl) rfl (zM1 h fun A m c l w hs hm hg he=>?_) n;cases he;refine (zLX A m c l w hs (by omega)).mono ?_;rintro e w' ⟨rfl,rfl⟩
 refine zCf ⟨?_,Yp _ _⟩;rw [zEA];rfl
theorem zSu:zAF 78 zVJ:=fun H args v h n=>by
 refine zA2.one Tryz.func78 (by kernel_rfl) rfl (zEC h fun A m c l B m' c' l' w hs hm hs' hm' hg he=>?_) n;cases he;refine (zDN A B m c m' c' l l' w hs hs').mono ?_;rintro e w' ⟨rfl,q,rfl⟩
 refine zCf ⟨?_,zAR (Yp _ _) q⟩;rw [zLu]
theorem zSt:zAF 229 zVI:=fun H args v h n=>by
 refine zA2.one Tryz.func229 (by kernel_rfl) rfl (zEC h fun A m c l B m' c' l' w hs hm hs' hm' hg he=>?_) n;obtain ⟨h1,rfl⟩:=zFm he;exact (zNT A B m c m' c' l l' w hs hs' hm hm' h1).mono fun e w' h=>zGv h
theorem zSv:zAF 134 zVK:=fun H args v h n=>by
 refine zA2.one Tryz.func134 (by kernel_rfl) rfl (zEC h fun A m c l B m' c' l' w hs hm hs' hm' hg he=>?_) n;obtain ⟨h1,rfl⟩:=zFm he;exact (zRA A B m c m' c' l l' w hs hs' hm hm' h1).mono fun e w' h=>zGv h
theorem zSy:zAF 230 zVN:=fun H args v h n=>by
 refine zA2.one Tryz.func230 (by kernel_rfl) rfl (zEC h fun A m c l B m' c' l' w hs hm hs' hm' hg he=>?_) n;cases hb:Nat.ble (val l') (val l)
 ·rw [hb] at he;cases he
 ·rw [hb] at he
  cases he;exact (zJO A B m c m' c' l l' w hs hs' hm hm' (Ym hb)).mono fun e w' h=>zGv h
theorem zSw:zAF 135 zVL:=fun H args v h n=>by
 refine zA2.one Tryz.func135 (by kernel_rfl) rfl (zH7 h fun A m c l j w hs hm hg he=>?_) n;cases hb:Nat.ble j 65536
 ·rw [hb] at he;cases he
 ·rw [hb] at he
  obtain ⟨h1,rfl⟩:=zFm he;exact (zRB A m c j l w hs hm (Ym hb) h1).mono fun e w' h=>zGv h
theorem zSx:zAF 215 zVM:=fun H args v h n=>by
 refine zA2.one Tryz.func215 (by kernel_rfl) rfl (zH7 h fun A m c l j w hs hm hg he=>?_) n;cases hb:Nat.ble j 65536
 ·rw [hb] at he;cases he
 ·rw [hb] at he
  cases he;exact (zRC A m c j l w hs hm (Ym hb)).mono fun e w' h=>zGv h
theorem zKL {H:Hp}{args:List AV}{v:AV}(h:zH5 H args=some v):(∃m,args=[.lim m]/\v=.lim m)\/(args=[.v (.slice none 0 0)]/\v=.v (.slice none 0 0)):=by
 unfold zH5 at h
 split at h
 ·cases h;exact .inl ⟨_,rfl,rfl⟩
 ·cases h;exact .inr ⟨rfl,rfl⟩
 ·cases h
theorem zVf (w:World):SL w none 0 0 []:=⟨rfl,Ya _,by omega,(fun x hx=>by cases hx),fun h=>absurd h (by omega)⟩
theorem zQb:zAF 142 zH5:=fun H args v h n=>by
 refine zA2.one Tryz.func142 (by kernel_rfl) rfl (fun ι fz w vals hr hI=>?_) n;rcases zKL h with ⟨m,rfl,rfl⟩ | ⟨rfl,rfl⟩
 ·cases hr with
  | cons _ _ u _ us hu _ hs=>
   cases hs;obtain ⟨A,k,c,rfl,h1,h2⟩:=zG9 hu;refine (zBU A k c (zAa m) w h1).mono ?_;rintro e w' ⟨rfl,rfl⟩
   refine ⟨_,rfl,Yp _ _,fun fz' hz _=>?_⟩;have hk:(zAa (val (zAa m))).length=k:=by rw [zAH];exact h1.len
   rw [hk];exact .lim m A k c h1 fun ad e hl=>hz _ (h2 ad e hl)
 ·cases hr with
  | cons _ _ u _ us hu _ hs=>
   cases hs;cases hu;refine (zBU none 0 0 [] w (zVf w)).mono ?_;rintro e w' ⟨rfl,rfl⟩
   exact ⟨_,rfl,Yp _ _,fun fz' hz _=>.v _⟩
theorem zQa:zAF 216 zH5:=fun H args v h n=>by
 refine zA2.one Tryz.func216 (by kernel_rfl) rfl (fun ι fz w vals hr hI=>?_) n;rcases zKL h with ⟨m,rfl,rfl⟩ | ⟨rfl,rfl⟩
 ·cases hr with
  | cons _ _ u _ us hu _ hs=>
   cases hs;obtain ⟨A,k,c,rfl,h1,h2⟩:=zG9 hu;refine (zGB A k c w h1.cap h1.max).mono ?_;rintro e w' ⟨rfl,rfl⟩
   refine ⟨_,rfl,Yp _ _,fun fz' hz _=>?_⟩;exact .lim m A k k ⟨h1.len,Ya _,Yq h1.cap h1.max,h1.lt,h1.at_⟩ fun ad e hl=>hz _ (h2 ad e hl)
 ·cases hr with
  | cons _ _ u _ us hu _ hs=>
   cases hs;cases hu;refine (zGB none 0 0 w (Ya _) (by omega)).mono ?_;rintro e w' ⟨rfl,rfl⟩
   exact ⟨_,rfl,Yp _ _,fun fz' hz _=>.v _⟩
theorem zOZ:zAF 105 zLD:=fun H args v h n=>by
 refine zA2.one Tryz.func105 (by kernel_rfl) rfl (zCa.yields fun ι fz w vals hr hI=>?_) n;unfold zLD at h
 split at h
 ·rename_i x
  obtain ⟨m,h1,h2⟩:=zAW h;cases h2;cases hr with
  | cons _ _ u _ us hu _ hs=>
   cases hs;obtain ⟨A,k,c,rfl,h3,h4⟩:=zOJ h1 hI hu;exact (zDj A k c (zAa m) w h3 (by omega)).mono fun e w' h=>zSL h
 ·cases h
theorem zOY:zAF 19 zNv:=fun H args v h n=>by
 refine zA2.one Tryz.func19 (by kernel_rfl) rfl (zCY h fun A m c a w hs hm hg=>?_) n;have e:zF7 a=vld ⟨a.neg,zAa a.m,a.e⟩:=(zDp a).symm;rw [e];exact (zA4 a.neg A m c (zAa a.m) a.e w hs (by omega)).mono fun e w' h=>zMr h
theorem zQY:zAF 20 zRJ:=fun H args v h n=>by
 refine zA2.one Tryz.func20 (by kernel_rfl) rfl (zCY h fun A m c a w hs hm hg=>?_) n;have e:zUJ a=zBP ⟨a.neg,zAa a.m,a.e⟩:=(zK8 a).symm;rw [e];exact (zFH a.neg A m c (zAa a.m) a.e w hs (by omega)).mono fun e w' h=>zCf h
theorem zQW:zAF 217 zRI:=fun H args v h n=>by
 refine zA2.one Tryz.func217 (by kernel_rfl) rfl (zCY h fun A m c a w hs hm hg=>?_) n;have e:zQK a=zMf ⟨a.neg,zAa a.m,a.e⟩:=(zQL a).symm;rw [e];exact (zNj a.neg A m c (zAa a.m) a.e w hs (by omega)).mono fun e w' h=>zCf h
theorem zSs:zAF 77 zT6:=fun H args v h n=>by
 refine zA2.one Tryz.func77 (by kernel_rfl) rfl (zCY h fun A m c a w hs hm hg=>?_) n;have e:zV1 a=zCU ⟨a.neg,zAa a.m,a.e⟩:=(zSe a).symm;rw [e];exact (zBB a.neg A m c (zAa a.m) a.e w hs (by omega)).mono fun e w' h=>zCf h
theorem zSq:zAF 58 zT4:=fun H args v h n=>by
 refine zA2.one Tryz.func58 (by kernel_rfl) rfl (zCY h fun A m c a w hs hm hg=>?_) n;exact (zL2 a.neg A m c (zAa a.m) a.e w hs (by omega)).mono fun e w' h=>zIe (zOL a) h
theorem zSl:zAF 178 zT0:=fun H args v h n=>by
 refine zA2.one Tryz.func178 (by kernel_rfl) rfl (zCY h fun A m c a w hs hm hg=>?_) n;exact (zPp a.neg A m c (zAa a.m) a.e w hs (by omega)).mono fun e w' h=>zIe (zSX a) h
theorem zSn:zAF 21 zT2:=fun H args v h n=>by
 refine zA2.one Tryz.func21 (by kernel_rfl) rfl (zEB h fun A m c a B m' c' b w hs hm hs' hm' hg=>?_) n;have e:zVz a b=zCH ⟨a.neg,zAa a.m,a.e⟩ ⟨b.neg,zAa b.m,b.e⟩:=(zSZ a b).symm;rw [e];exact (zLb a.neg b.neg A B m c m' c' (zAa a.m) (zAa b.m) a.e b.e w hs hs' (by omega) (by omega)).mono fun e w' h=>zCf h
theorem zSm:zAF 116 zT1:=fun H args v h n=>by
 refine zA2.one Tryz.func116 (by kernel_rfl) rfl (zEB h fun A m c a B m' c' b w hs hm hs' hm' hg=>?_) n;exact (zIO a.neg b.neg A B m c m' c' (zAa a.m) (zAa b.m) a.e b.e w hs hs' hg.1 (by omega) (by omega)).mono fun e w' h=>zGu (zSY a b) h
theorem zSr:zAF 113 zT5:=fun H args v h n=>by
 refine zA2.one Tryz.func113 (by kernel_rfl) rfl (zEB h fun A m c a B m' c' b w hs hm hs' hm' hg=>?_) n;exact (zI7 a.neg b.neg A B m c m' c' (zAa a.m) (zAa b.m) a.e b.e w hs hs' hg.1 (by omega) (by omega)).mono fun e w' h=>zGu (zSd a b) h
theorem zSp:zAF 249 zT3:=fun H args v h n=>by
 refine zA2.one Tryz.func249 (by kernel_rfl) rfl (zEB h fun A m c a B m' c' b w hs hm hs' hm' hg=>?_) n;exact (zQU a.neg b.neg A B m c m' c' (zAa a.m) (zAa b.m) a.e b.e w hs hs' hg.1 (by omega) (by omega)).mono fun e w' h=>zGu (zSc a b) h
theorem zOX:zAF 171 zKl:=fun H args v h n=>by
 refine zA2.one Tryz.func171 (by kernel_rfl) rfl (zCa.yields fun ι fz w vals hr hI=>?_) n;unfold zKl at h
 split at h
 ·rename_i x k
  obtain ⟨a,h1,h2⟩:=zAW h;cases h2;cases hr with
  | cons _ _ u _ us hu _ hs=>
   cases hs with
   | cons _ _ u' _ us' hu' _ hs=>
    cases hs;cases hu';obtain ⟨A,m,c,rfl,h3,h4⟩:=zIn h1 hI hu;exact (zNA a.neg A m c (zAa a.m) a.e k w h3 hI.gp.1 (by omega)).mono fun e w' h=>zGu (zON a k) h
 ·cases h
theorem zQX:zAF 90 zNu:=fun H args v h n=>by
 refine zA2.one Tryz.func90 (by kernel_rfl) rfl (zCa.yields fun ι fz w vals hr hI=>?_) n;unfold zNu at h
 split at h
 ·rename_i neg x e
  obtain ⟨m,h1,h2⟩:=zAW h;cases he:zMw e
  ·rw [he] at h2;cases h2
  ·rw [he] at h2
   cases h2;cases hr with
   | cons _ _ u _ us hu _ hs=>
    cases hs with
    | cons _ _ u' _ us' hu' _ hs=>
     cases hs with
     | cons _ _ u3 _ us3 hu3 _ hs=>
      cases hs;cases hu;cases hu3;obtain ⟨A,k,c,l,rfl,h3,rfl,h4,_⟩:=zEg h1 hI hu';exact (zSi neg A k c l e w h3 h4 (by rw [zLv];exact he) hI.gp.1).mono fun e w' h=>zGu (zC7 _ _ _) h
 ·cases h
theorem zSo:zAF 94 zSD:=fun H args v h n=>by
 refine zA2.one Tryz.func94 (by kernel_rfl) rfl (zCa.yields fun ι fz w vals hr hI=>?_) n;unfold zSD at h
 split at h
 ·rename_i k
  cases hb:Bool.and (Bool.not (ltI (.ofNat 9223372036854775807) k)) (Bool.not (ltI k (.negSucc 9223372036854775807)))
  ·rw [hb] at h;cases h
  ·rw [hb] at h
   cases h;simp only [Yi,Bool.not_eq_true',zB3,decide_eq_false_iff_not] at hb;have e1:Int.ofNat 9223372036854775807=9223372036854775807:=rfl;have e2:Int.negSucc 9223372036854775807 = -9223372036854775808:=rfl;rw [e1,e2] at hb;cases hr with
   | cons _ _ u _ us hu _ hs=>
    cases hs;cases hu;by_cases hk:k<0
    ·have:=zQH k.natAbs w (by omega) (by omega) hI.gp.1
     rw [show (-(k.natAbs:Int))=k by omega] at this;exact this.mono fun e w' h=>zIe (zOI k) h
    ·have:=zEe k.natAbs w (by omega) hI.gp.1
     rw [show ((k.natAbs:Nat):Int)=k by omega] at this;exact this.mono fun e w' h=>zIe (zOI k) h
 ·cases h
theorem zP0 (x:Nat) (h:0<x) (hx:x<18446744073709551616):Lib.ctz 64 x=tz x:=by
 obtain ⟨m,hm,_⟩:=Lib.ctzFrom_spec 64 x (by omega) (by omega);rw [zPX hm,Lib.ctz,if_neg (by omega)]
theorem zQc:zAF 92 zOa:=fun H args v h n=>by
 refine zA2.one Tryz.func92 (by kernel_rfl) rfl (zCa.yields fun ι fz w vals hr hI=>?_) n;unfold zOa at h
 split at h
 ·rename_i x
  cases hb:Bool.and (Nat.ble 1 x) (Nat.ble x 18446744073709551615)
  ·rw [hb] at h;cases h
  ·rw [hb] at h
   cases h;simp only [Yi] at hb;have h1:=Ym hb.1;have h2:=Ym hb.2;cases hr with
   | cons _ _ u _ us hu _ hs=>
    cases hs;cases hu;refine (Tryz.bits_TrailingZeros64 x (by omega) w (fun _=>hI.gp.2)).mono ?_;rintro e w' ⟨rfl,rfl⟩
    refine zCf ⟨?_,Yp _ _⟩;rw [zRX x (by omega),zP0 x (by omega) (by omega)];rfl
 ·cases h
open Go.ChangeShapes Go.WideShapes Go.ChangeAt
theorem zRR:Tryz.prog.globalNamed "math/bits.deBruijn64tab" = some 0:=by kernel_rfl
theorem zMp:(Tryz.prog.globals[0]?).map (·.type)=some 229:=by kernel_rfl
theorem zMh:Tryz.prog.cellsOf 229=64:=by kernel_rfl
theorem zLm {W:World}(h:laidMet Tryz.prog Rows.hybridErrorsRow.laid W):glo.p W/\∀b,glo.B b->b<W.heap.size:=by
 have h':laidMet Tryz.prog (("math/bits.deBruijn64tab",Lib.tabData .u8 zPU)::[("math/bits.deBruijn32tab",Rows.laid_math_bits_deBruijn32tab)]) W:=h;have ht:=Lib.tabIs_of_head (rest:=[("math/bits.deBruijn32tab",Rows.laid_math_bits_deBruijn32tab)]) zRR zMp Tryz.underlying229 Tryz.underlying5 cells8 zMh h';have h1:zBx W:=zTU (rest:=[]) (laidMet.tail h');have h2:TabAt 0 Lib.deBruijn64tab W:=by
  intro j hj;have hj':j<zPU.length:=by simpa [zPU] using hj
  have:=ht.cell zRR j hj';rw [this]
  congr 2
  simp [zPU,List.getD,hj]
 refine ⟨⟨h1,h2⟩,fun b hb=>?_⟩;rcases hb with rfl | rfl
 ·exact h1.lt
 ·exact World.block_lt_of_cell? W ⟨0,0,none⟩ (h2 0 (by decide))
def zrF (os:Os):World:=
 { World.holding Tryz.prog os ⟨#[],#[],[]⟩ with heap:=((World.holding Tryz.prog os ⟨#[],#[],[]⟩).heap.modify 1 (zJ8 (zPT.map fun z=>Value.int .u8 z).toArray)).modify 0 (zJ8 (zPU.map fun z=>Value.int .u8 z).toArray) }
theorem zs5 (os:Os) (W:Array Value):laidMet Tryz.prog Rows.hybridErrorsRow.laid ((zrF os).forCall (fun _ _=>0) ⟨#[],W,[]⟩).memory:=
 laidMet_of_run' 8 (by kernel_rfl) (by kernel_rfl)
def Bd (d:Dy):Prop:=d.l.length<=1000
section
variable {w:World}{g:Nat}{t:TypeId}
theorem Blk.cells8 {a b c d e f i j:Value}(h:Blk w g t #[a,b,c,d,e,f,i,j]):w.cell? ⟨g,0,none⟩=some a/\w.cell? ⟨g,1,none⟩=some b/\w.cell? ⟨g,2,none⟩=some c/\w.cell? ⟨g,3,none⟩=some d/\w.cell? ⟨g,4,none⟩=some e/\w.cell? ⟨g,5,none⟩=some f/\w.cell? ⟨g,6,none⟩=some i/\w.cell? ⟨g,7,none⟩=some j:=
 ⟨h.cell 0,h.cell 1,h.cell 2,h.cell 3,h.cell 4,h.cell 5,h.cell 6,h.cell 7⟩
end
theorem zEl (vs:List Value) (d:Dy) (w:World) (h:RD w vs d) (hd:Bd d):Calls Tryz.prog 19 #[.agg vs.toArray] w (zBW (vld d) w):=by
 obtain ⟨A,n,c,rfl,hs⟩:=h;have:=hs.len;unfold Bd at hd;exact zA4 d.neg A n c d.l d.e w hs (by omega)
theorem zIW (vs us:List Value) (d d':Dy) (w:World) (h:RD w vs d) (h':RD w us d') (hd:Bd d) (hd':Bd d') :
  Calls Tryz.prog 21 #[.agg vs.toArray,.agg us.toArray] w fun e w'=>e=.returned (.int .i64 (zCH d d'))/\Below w.heap.size w w':=by
 obtain ⟨A,n,c,rfl,hs⟩:=h;obtain ⟨B,m,c',rfl,hs'⟩:=h';have:=hs.len;have:=hs'.len;unfold Bd at hd hd';exact zLb d.neg d'.neg A B n c m c' d.l d'.l d.e d'.e w hs hs' (by omega) (by omega)
theorem zRo (vs:List Value) (d:Dy) (w:World) (h:RD w vs d) (hd:Bd d):Calls Tryz.prog 20 #[.agg vs.toArray] w fun e w'=>e=.returned (.int .i64 (zBP d))/\Below w.heap.size w w':=by
 obtain ⟨A,n,c,rfl,hs⟩:=h;have:=hs.len;unfold Bd at hd;exact zFH d.neg A n c d.l d.e w hs (by omega)
inductive Xn where
 | mk (k a b:Int) (s:ByteArray) (n:Int) (l:List Xn)
def Xn.k:Xn->Int | .mk k _ _ _ _ _=>k
def Xn.a:Xn->Int | .mk _ a _ _ _ _=>a
def Xn.b:Xn->Int | .mk _ _ b _ _ _=>b
def Xn.s:Xn->ByteArray | .mk _ _ _ s _ _=>s
def Xn.n:Xn->Int | .mk _ _ _ _ n _=>n
def Xn.l:Xn->List Xn | .mk _ _ _ _ _ l=>l
structure Dc where
 s:ByteArray
 a:Int
 b:Int
 c:Int
 d:Int
structure Eq1 where
 s:ByteArray
 e:Xn
structure Ed where
 g:Xn
 dir:Int
 to:ByteArray
 rs:List Eq1
structure Md where
 s:ByteArray
 flow:List Eq1
 edges:List Ed
structure Pb where
 states:List Dc
 params:List Dc
 modes:List Md
 n:Int
 d:Int
def InF (F:Nat->Prop) (A:Option Addr) (n:Nat):Prop:=0<n->∃b off,A=some ⟨b,off,none⟩/\F b
def RX (F:Nat->Prop):Nat->World->List Value->Xn->Prop
 | 0,_,_,_=>False
 | d+1,W,us,.mk k a b s n l=>∃A m c,us=[.int .i64 k,.int .i64 a,.int .i64 b,.string s,.int .i64 n,.slice A m c]/\Sl 6 (RX F d) W A m c l/\InF F A m
def RDc (_W:World) (us:List Value) (x:Dc):Prop:=us=[.string x.s,.int .i64 x.a,.int .i64 x.b,.int .i64 x.c,.int .i64 x.d]
def zql (_W:World) (us:List Value) (x:ByteArray):Prop:=us=[.string x]
def RQ (F:Nat->Prop) (d:Nat) (W:World) (us:List Value) (x:Eq1):Prop:=∃vs,us=.string x.s::vs/\RX F d W vs x.e
def REd (F:Nat->Prop) (d:Nat) (W:World) (us:List Value) (x:Ed):Prop:=∃vs A n c,us=vs++[.int .i64 x.dir,.string x.to,.slice A n c]/\RX F d W vs x.g/\Sl 7 (RQ F d) W A n c x.rs
def RMd (F:Nat->Prop) (d:Nat) (W:World) (us:List Value) (x:Md):Prop:=∃A n c B m q,us=[.string x.s,.slice A n c,.slice B m q]/\Sl 7 (RQ F d) W A n c x.flow/\Sl 9 (REd F d) W B m q x.edges
def RPb (F:Nat->Prop) (d:Nat) (W:World) (us:List Value) (x:Pb):Prop:=∃A n c B m q C i j,us=[.slice A n c,.slice B m q,.slice C i j,.int .i64 x.n,.int .i64 x.d]/\
 Sl 5 RDc W A n c x.states/\Sl 5 RDc W B m q x.params/\Sl 3 (RMd F d) W C i j x.modes/\(A=none->c=0)/\(B=none->q=0)
theorem zqX (F:Nat->Prop):∀d,zJM (RX F d)
 | 0=>fun _ _ _ _ h _=>h.elim
 | d+1=>by
  rintro W W' vs ⟨k,a,b,s,n,l⟩ ⟨A,m,c,e,h,hF⟩ hb
  exact ⟨A,m,c,e,h.next (zqX F d) hb,hF⟩
theorem zqZ:zJM RDc:=fun _ _ _ _ h _=>h
theorem zqW:zJM zql:=fun _ _ _ _ h _=>h
theorem zqm (F:Nat->Prop) (d:Nat):zJM (RQ F d):=by
 rintro W W' vs x ⟨us,e,h⟩ hb
 exact ⟨us,e,zqX F d _ _ _ _ h hb⟩
theorem zqw (F:Nat->Prop) (d:Nat):zJM (REd F d):=by
 rintro W W' vs x ⟨us,A,n,c,e,h,h1⟩ hb
 exact ⟨us,A,n,c,e,zqX F d _ _ _ _ h hb,h1.next (zqm F d) hb⟩
theorem zqr (F:Nat->Prop) (d:Nat):zJM (RMd F d):=by
 rintro W W' vs x ⟨A,n,c,B,m,q,e,h,h1⟩ hb
 exact ⟨A,n,c,B,m,q,e,h.next (zqm F d) hb,h1.next (zqw F d) hb⟩
theorem zqf (F:Nat->Prop) (d:Nat):zJM (RPb F d):=by
 rintro W W' vs x ⟨A,n,c,B,m,q,C,i,j,e,h,h1,h2,h3⟩ hb
 exact ⟨A,n,c,B,m,q,C,i,j,e,h.next zqZ hb,h1.next zqZ hb,h2.next (zqr F d) hb,h3⟩
theorem RX.keep {F F':Nat->Prop}(hF:∀b,F b->F' b) {W W':World}(hs:W.heap.size<=W'.heap.size) (hc:∀b off v,F b->W.cell? ⟨b,off,none⟩=some v->W'.cell? ⟨b,off,none⟩=some v) :
  ∀ (d:Nat) (us:List Value) (x:Xn),RX F d W us x->RX F' d W' us x
 | 0,_,_,h=>h.elim
 | d+1,us,.mk k a b s n l,⟨A,m,c,e,h,hA⟩=>by
  refine ⟨A,m,c,e,⟨h.len,h.cap,h.max,fun hn=>?_⟩,fun hn=>?_⟩
  ·obtain ⟨b0,off,rfl,hlt,hx⟩:=h.at_ hn
   obtain ⟨b1,off1,e1,hFb⟩:=hA hn;injection e1 with e1
   injection e1 with e1 e2
   subst e1 e2;refine ⟨b0,off,rfl,Yh hlt hs,fun j x hj=>?_⟩;obtain ⟨vs,h1,h2,h3⟩:=hx j x hj;exact ⟨vs,h1,RX.keep hF hs hc d vs x h2,fun i v hv=>hc _ _ _ hFb (h3 i v hv)⟩
  ·obtain ⟨b1,off1,e1,hFb⟩:=hA hn
   exact ⟨b1,off1,e1,hF _ hFb⟩
theorem RX.up {F:Nat->Prop}{W:World}:∀ (d:Nat) (us:List Value) (x:Xn),RX F d W us x->RX F (d+1) W us x
 | 0,_,_,h=>h.elim
 | d+1,us,.mk k a b s n l,⟨A,m,c,e,h,hA⟩=>⟨A,m,c,e,⟨h.len,h.cap,h.max,fun hn=>by
   obtain ⟨b0,off,e0,hlt,hx⟩:=h.at_ hn;refine ⟨b0,off,e0,hlt,fun j x hj=>?_⟩;obtain ⟨vs,h1,h2,h3⟩:=hx j x hj;exact ⟨vs,h1,RX.up d vs x h2,h3⟩⟩,hA⟩
theorem RX.ups {F:Nat->Prop}{W:World}{us:List Value}{x:Xn}{d d':Nat}(hd:d<=d') (h:RX F d W us x):RX F d' W us x:=by
 induction hd with
 | refl=>exact h
 | step _ ih=>exact RX.up _ _ _ ih
theorem RX.open {F:Nat->Prop}{d:Nat}{W:World}{us:List Value}{x:Xn}(h:RX F d W us x):∃A m c d',d=d' + 1/\us=[.int .i64 x.k,.int .i64 x.a,.int .i64 x.b,.string x.s,.int .i64 x.n,.slice A m c]/\Sl 6 (RX F d') W A m c x.l/\InF F A m:=by
 cases d with
 | zero=>exact h.elim
 | succ d=>
  cases x with
  | mk k a b s n l=>
   obtain ⟨A,m,c,e,h1,h2⟩:=h;exact ⟨A,m,c,d,rfl,e,h1,h2⟩
mutual
def Xn.flat:Xn->List Xn
 | .mk k a b s n l=>.mk k a b s n l::Xn.flats l
def Xn.flats:List Xn->List Xn
 | []=>[]
 | x::xs=>Xn.flat x++Xn.flats xs
end
def zrt (c:UInt8):Bool:=(97<=c.toNat && c.toNat<=122) || (65<=c.toNat && c.toNat<=90)
def zsS (c:UInt8):Bool:=48<=c.toNat && c.toNat<=57
def zsK (c:UInt8):Bool:=zrt c || zsS c || c.toNat == 95
def zt0:List (List UInt8):=[[115,116,97,116,101],[112,97,114,97,109],[105,110],[109,111,100,101],[119,104,101,110],[114,105,115,101,115],[102,97,108,108,115],[103,111,116,111],[119,105,116,104],[116,105,109,101],[101,120,112],[108,111,103],[115,105,110],[99,111,115],[115,113,114,116]]
def zqn (s:ByteArray):Bool:=(match s.data.toList with | []=>false | c::_=>zrt c) && s.data.toList.all zsK && decide (s.data.size<=20) && !zt0.contains s.toList
def zrA (a b:Int):Bool:=decide (1<=b) && decide (b<=1073741824) && decide (-1073741824<=a) && decide (a<=1073741824) && decide (Nat.gcd a.natAbs b.natAbs=1)
def zrD (k:Int):Int:=if k=1\/k=2 then 0 else if 3<=k/\k<=6 then 2 else if 7<=k/\k<=13 then 1 else -1
def zre (x:Xn):Bool:=decide ((x.l.length:Int)=zrD x.k) && (if x.k=1 then zrA x.a x.b else decide (x.a=0) && decide (x.b=0)) && (if x.k=2 then zqn x.s else decide (x.s=⟨#[]⟩)) && (decide (x.n=0) || decide (x.k=8) && decide (0<x.n) && decide (x.n<=16))
def zrg (f:Xn->Nat):Nat->List Xn->Nat
 | n,[]=>n
 | n,x::xs=>if n<=200 then zrg f (n+f x) xs else n
def cnt:Nat->Xn->Nat
 | 0,_=>1048576
 | l+1,x=>if zre x=true then zrg (cnt l) 1 x.l else 1048576
def OkX:Nat->Xn->Prop
 | 0,_=>False
 | l+1,x=>zre x=true/\∀y∈x.l,OkX l y
theorem Xn.flat_eq (x:Xn):x.flat=x::Xn.flats x.l:=by
 cases x;rw [Xn.flat];rfl
theorem zr0:∀l:List Xn,(Xn.flats l).length=(l.map fun x=>x.flat.length).sum
 | []=>rfl
 | x::xs=>by rw [Xn.flats,Yu,zr0 xs,List.map_cons,List.sum_cons]
theorem ztI (f:Xn->Nat):∀ (xs:List Xn) (n:Nat),n<=zrg f n xs
 | [],n=>Ya _
 | x::xs,n=>by
  unfold zrg
  split
  ·exact Yq (Nat.le_add_right _ _) (ztI f xs _)
  ·exact Ya _
theorem ztK (f:Xn->Nat):∀ (xs:List Xn) (n:Nat),zrg f n xs<=200->zrg f n xs=n+(xs.map f).sum/\∀x∈xs,f x<=200
 | [],n,_=>⟨by simp [zrg],by simp⟩
 | x::xs,n,h=>by
  unfold zrg at h ⊢
  split at h
  ·rename_i hn
   obtain ⟨h1,h2⟩:=ztK f xs _ h;have h3:=ztI f xs (n+f x);rw [if_pos hn];refine ⟨by rw [h1,List.map_cons,List.sum_cons];omega,fun y hy=>?_⟩;rcases List.mem_cons.1 hy with rfl | hy
   ·omega
   ·exact h2 y hy
  ·omega
theorem ztJ (f:Xn->Nat) (M:Nat):∀ (xs:List Xn) (n:Nat),(∀x∈xs,f x<=M)->n<=200+M->zrg f n xs<=200+M
 | [],n,_,hn=>hn
 | x::xs,n,h,hn=>by
  unfold zrg
  split
  ·exact ztJ f M xs _ (fun y hy=>h y (by simp [hy])) (by have:=h x (by simp);omega)
  ·exact hn
theorem ztM:∀ (l:Nat) (x:Xn),cnt l x<=1048576+200*l
 | 0,_=>by simp [cnt]
 | l+1,x=>by
  unfold cnt
  split
  ·have:=ztJ (cnt l) (1048576+200*l) x.l 1 (fun y _=>ztM l y) (by omega)
   omega
  ·omega
theorem zrh:∀ (l:Nat) (x:Xn),cnt l x<=200->OkX l x/\x.flat.length=cnt l x
 | 0,_,h=>by simp [cnt] at h
 | l+1,x,h=>by
  have h':=h;unfold cnt at h ⊢
  split at h
  ·rename_i hn
   obtain ⟨h1,h2⟩:=ztK (cnt l) x.l 1 h;refine ⟨⟨hn,fun y hy=>(zrh l y (h2 y hy)).1⟩,?_⟩;rw [if_pos hn,h1,Xn.flat_eq,List.length_cons,zr0];have:x.l.map (fun x=>x.flat.length)=x.l.map (cnt l):=List.map_congr_left fun y hy=>(zrh l y (h2 y hy)).2
   rw [this];omega
  ·omega
def xvP (x:Xn):Bool:=decide (cnt 20 x<=200)
def Xn.vars (x:Xn):List ByteArray:=(x.flat.filter fun y=>y.k == 2).map Xn.s
def dcP (d:Dc):Bool:=zqn d.s && (zrA d.a d.b && zrA d.c d.d)
def eqP (q:Eq1):Bool:=zqn q.s && xvP q.e
def edP (x:Ed):Bool:=xvP x.g && (decide (x.dir=1) || decide (x.dir=2)) && zqn x.to && decide (x.rs.length<=4) && x.rs.all eqP
def mdP (m:Md):Bool:=zqn m.s && decide (m.flow.length<=4) && decide (m.edges.length<=4) && m.flow.all eqP && m.edges.all edP
def pbP (p:Pb):Bool:=decide (1<=p.states.length) && decide (p.states.length<=4) && decide (p.params.length<=4) && decide (1<=p.modes.length) && decide (p.modes.length<=8) && p.modes.all mdP && p.states.all dcP && p.params.all dcP && zrA p.n p.d
def Pb.names (p:Pb):List ByteArray:=p.states.map Dc.s++p.params.map Dc.s
structure zrm (states names:List ByteArray) (l:List Eq1):Prop where
 nodup:(l.map Eq1.s).Nodup
 state:∀q∈l,q.s∈states
 known:∀q∈l,∀s∈q.e.vars,s∈names
structure ztF (states names modes:List ByteArray) (m:Md):Prop where
 flow:zrm states names m.flow
 all:∀s∈states,s∈m.flow.map Eq1.s
 to:∀x∈m.edges,x.to∈modes
 guard:∀x∈m.edges,∀s∈x.g.vars,s∈names
 resets:∀x∈m.edges,zrm states names x.rs
structure zq1 (p:Pb):Prop where
 names:p.names.Nodup
 modes:(p.modes.map Md.s).Nodup
 ranges:∀d∈p.states++p.params,d.a*d.d<=d.c*d.b
 time:0<p.n
 mode:∀m∈p.modes,ztF (p.states.map Dc.s) p.names (p.modes.map Md.s) m
theorem zsu (c:UInt8) (h:zsK c=true) (w:World):Calls Tryz.prog 325 #[.int .u8 (c.toNat:Int)] w fun e w'=>e=.returned (.int .i64 (if zrt c=true then 2 else if zsS c=true then 3 else 4))/\w' = w:=by
 have hx:c.toNat<256:=c.toNat_lt;have hr:(97<=c.toNat/\c.toNat<=122)\/(65<=c.toNat/\c.toNat<=90)\/(48<=c.toNat/\c.toNat<=57)\/c.toNat=95:=by
  simp only [zsK,zrt,zsS,Bool.or_eq_true,Yi,Xa,beq_iff_eq] at h;omega
 have hl:zrt c=decide ((97<=c.toNat/\c.toNat<=122)\/(65<=c.toNat/\c.toNat<=90)):=by unfold zrt;simp [Bool.decide_or,Bool.decide_and]
 have hd:zsS c=decide (48<=c.toNat/\c.toNat<=57):=by unfold zsS;simp [Bool.decide_and]
 obtain ⟨r,HR⟩:∃r:Int,Hid (r=if zrt c=true then 2 else if zsS c=true then 3 else 4):=⟨_,rfl⟩;rw [<- HR.out];have HL:=Zh hl;have HD:=Zh hd;clear hl hd h;generalize c.toNat=x at *;have e0:((x:Int) == 32)=false:=by simp;omega
 have e1:((x:Int) == 9)=false:=by simp;omega
 have e2:((x:Int) == 13)=false:=by simp;omega
 have e3:((x:Int) == 10)=false:=by simp;omega
 rcases hr with hr | hr | hr | rfl
 ·have HV:Hid (r=2):=by rw [Hid,HR.out,HL.out,if_pos (by simp;omega)]
  clear HR HL HD;go_enter Tryz.func325,Tryz.ntmps325
  go_wp2_with fail
  go_ret;exact ⟨by rw [HV.out];rfl,rfl⟩
 ·have HV:Hid (r=2):=by rw [Hid,HR.out,HL.out,if_pos (by simp;omega)]
  clear HR HL HD;go_enter Tryz.func325,Tryz.ntmps325
  go_wp2_with fail
  go_ret;exact ⟨by rw [HV.out];rfl,rfl⟩
 ·have HV:Hid (r=3):=by rw [Hid,HR.out,HL.out,if_neg (by simp;omega),HD.out,if_pos (by simp;omega)]
  clear HR HL HD;go_enter Tryz.func325,Tryz.ntmps325
  go_wp2_with fail
  go_ret;exact ⟨by rw [HV.out];rfl,rfl⟩
 ·have HV:Hid (r=4):=by rw [Hid,HR.out,HL.out,if_neg (by simp),HD.out,if_neg (by simp)]
  clear HR HL HD;go_enter Tryz.func325,Tryz.ntmps325
  go_wp2_with fail
  go_ret;exact ⟨by rw [HV.out];rfl,rfl⟩
theorem zr6 (s:ByteArray) (h:zt0.contains s.toList=false) (w:World):Calls Tryz.prog 280 #[.string s] w fun e w'=>e=.returned (.bool false)/\w' = w:=by
 simp only [zt0,List.contains_cons,List.contains_nil,Bool.or_false,Xc] at h;obtain ⟨h0,h1,h2,h3,h4,h5,h6,h7,h8,h9,h10,h11,h12,h13,h14⟩:=h;go_enter Tryz.func280,Tryz.ntmps280
 go_wp2_with fail
 go_ret;exact ⟨rfl,rfl⟩
theorem ztZ (s:ByteArray) (h:zqn s=true) (w:World):Calls Tryz.prog 279 #[.string s] w fun e w'=>e=.returned (.bool true)/\w' = w:=by
 unfold zqn at h;simp only [Yi,Xa] at h;obtain ⟨⟨⟨h0,h1⟩,h2⟩,_⟩:=h;have hpos:0<s.size:=by
  cases hl:s.data.toList with
  | nil=>rw [hl] at h0;simp at h0
  | cons c r=>
   have:s.data.toList.length=r.length+1:=by rw [hl];rfl
   have e:s.size=s.data.size:=rfl;rw [e];simpa using (by omega:0<s.data.toList.length)
 have HC:Hid (∀ (j:Nat) (hj:j<s.size),zsK s[j]=true):=fun j hj=>by
  rw [List.all_eq_true] at h1;exact h1 _ (by rw [Array.mem_toList_iff];exact Array.getElem_mem hj)
 have HC0:Hid (zrt s[0]=true):=by
  have:s.data.toList[0]? = some s[0]:=by rw [Array.getElem?_toList];exact Array.getElem?_eq_getElem hpos
  cases hl:s.data.toList with
  | nil=>rw [hl] at h0;simp at h0
  | cons c r=>
   rw [hl] at h0 this;simp at this h0;rw [<- this];exact h0
 have e0:s.toList.isEmpty=false:=by
  rw [Lib.toList_data];cases hl:s.data.toList with
  | nil=>rw [hl] at h0;simp at h0
  | cons c r=>rfl
 have hz:s.size<=20:=h2;clear h0 h1 h2;have HK:=Zh (fun (j:Nat) (hj:j<s.size) (w:World)=>zsu s[j] (HC.out j hj) w);have HK0:Hid (∀w,Calls Tryz.prog 325 #[.int .u8 (s[0].toNat:Int)] w fun e w'=>e=.returned (.int .i64 2)/\w' = w):=fun w=>by
  have:=HK.out 0 hpos w
  rwa [if_pos HC0.out] at this
 go_enter Tryz.func279,Tryz.ntmps279
 go_wp2_with (go_at_call 325;refine (HK0.out _).mono ?_;rintro e w' ⟨rfl,hw'⟩;obtain rfl:=hw'.symm)
 go_loopw [15] (fun i wr=>∃j:Nat,j<=s.size/\i=.int .i64 j/\wr=w) (fun i _=>s.size - (intOf i).toNat)
 case atStart=>exact ⟨0,Nat.zero_le _,rfl,rfl⟩
 case round=>
  obtain ⟨j,hj,rfl,hwr⟩:=hrel;obtain rfl:=hwr.symm;by_cases hlt:j<s.size
  ·have hr:=HC.out j hlt
   have HJ:=Zh (HK.out j hlt w);have hcase:zrt s[j]=true\/(zrt s[j]=false/\zsS s[j]=true)\/(zrt s[j]=false/\zsS s[j]=false):=by cases zrt s[j] <;> cases zsS s[j] <;> simp
   have HX:∃v:Int,(v=2\/v=3\/v=4)/\Hid (Calls Tryz.prog 325 #[.int .u8 (s[j].toNat:Int)] w fun e w'=>e=.returned (.int .i64 v)/\w' = w):=by
    rcases hcase with h | ⟨h,h'⟩ | ⟨h,h'⟩
    ·exact ⟨2,.inl rfl,by have:=HJ.out;rw [if_pos h] at this;exact this⟩
    ·exact ⟨3,.inr (.inl rfl),by have:=HJ.out;rw [h,if_neg (by simp),if_pos h'] at this;exact this⟩
    ·exact ⟨4,.inr (.inr rfl),by have:=HJ.out;rw [h,if_neg (by simp),h',if_neg (by simp)] at this;exact this⟩
   obtain ⟨v,hv,HV⟩:=HX;clear hr HJ hcase HC HC0 HK HK0;rcases hv with rfl | rfl | rfl <;>
   ·go_wp2_with (go_at_call 325;refine HV.out.mono ?_;rintro e w' ⟨rfl,hw'⟩;obtain rfl:=hw'.symm)
    go_roundw
    case rel=>exact ⟨j+1,by omega,by go_num,by first | rfl | trivial⟩
    case measure=>simp [intOf];omega
  ·go_wp2_with fail
   go_ret;exact ⟨rfl,rfl⟩
theorem zsA (s:ByteArray) (h:zqn s=true) (w:World):Calls Tryz.prog 203 #[.string s] w fun e w'=>e=.returned (.bool true)/\w' = w:=by
 have HW:=Zh (ztZ s h);unfold zqn at h;simp only [Yi,Xa,Bool.not_eq_true'] at h;obtain ⟨⟨_,h2⟩,h3⟩:=h;have hz:s.size<=20:=h2;have HK:=Zh (zr6 s h3);clear h2 h3;go_enter Tryz.func203,Tryz.ntmps203
 go_wp2_with (first | (go_at_call 279;refine (HW.out _).mono ?_;rintro e w' ⟨rfl,hw'⟩;obtain rfl:=hw'.symm) | (go_at_call 280;refine (HK.out _).mono ?_;rintro e w' ⟨rfl,hw'⟩;obtain rfl:=hw'.symm))
 go_ret;exact ⟨rfl,rfl⟩
end Go.Proofs.YtngjhigieajkmaaGreatDoor
end
