/- Bundle 16: what the law's walk stands on: Q31, Q32. -/
import Derived.Test.YtchkfjgcbbbffaaGreatDoorW8
set_option maxRecDepth 100000
set_option maxHeartbeats 20000000
set_option linter.all false
noncomputable section
namespace Go.Proofs.YtchkfjgcbbbffaaGreatDoor
open Go.RowKit Pl
def zBF {α:Type}(Q:Nat->α->Prop):PT (Option α)->Nat->Nat->Prop
 | .lf,_,_=>True
 | .nd v l r,st,s=>(∀a,v=some a->Q s a)/\zBF Q l (2*st) (s+st)/\zBF Q r (2*st) (s+2*st)
theorem zeM {α:Type}(d v:α) (l r:PT α) (n:Nat):PT.get d (.nd v l r) n=(Bool.rec (Bool.rec (PT.get d r (Nat.sub (Nat.div n 2) 1)) (PT.get d l (Nat.div n 2)) (Nat.beq (Nat.land n 1) 1)) v (Nat.beq n 0):α):=rfl
theorem zEp {α:Type}{Q:Nat->α->Prop}:∀ {T:PT (Option α)}{st s:Nat},zBF Q T st s->∀ (n:Nat) (a:α),PT.get none T n=some a->Q (s+st*n) a
 | .lf,_,_,_,n,a,h=>by cases h
 | .nd v l r,st,s,⟨h1,h2,h3⟩,n,a,h=>by
  rw [zeM] at h;cases h0:Nat.beq n 0
  ·rw [h0] at h
   have hn:=Xm h0;dsimp only at h;have hland:Nat.land n 1=n%2:=Nat.and_one_is_mod n;rw [hland] at h;cases hb:Nat.beq (n%2) 1
   ·rw [hb] at h
    have hb:=Xm hb;have:=zEp h3 _ _ h;have e:s+2*st+2*st*(Nat.sub (Nat.div n 2) 1)=s+st*n:=by
     have e1:n=2*(Nat.sub (Nat.div n 2) 1)+2:=by
      show n=2*(n / 2 - 1)+2
      omega
     generalize Nat.sub (Nat.div n 2) 1=k at e1 ⊢;subst e1;rw [Nat.mul_add,Nat.mul_comm 2 st,Yz];omega
    rwa [e] at this
   ·rw [hb] at h
    have hb:=Yg hb;have:=zEp h2 _ _ h;have e:s+st+2*st*(Nat.div n 2)=s+st*n:=by
     have e1:n=2*(Nat.div n 2)+1:=by
      show n=2*(n / 2)+1
      omega
     generalize Nat.div n 2=k at e1 ⊢;subst e1;rw [Nat.mul_add,Nat.mul_one,Nat.mul_comm 2 st,Yz];omega
    rwa [e] at this
  ·rw [h0] at h
   have hn:=Yg h0;subst hn;have:=h1 a h
   rwa [Nat.mul_zero,Nat.add_zero]
theorem zAg {α:Type}{Q:Nat->α->Prop}{a:α}{s:Nat}(h:Q s a):∀b,some a=some b->Q s b:=fun b e=>by injection e with e;subst e;exact h
theorem zAO {α:Type}{Q:Nat->α->Prop}{s:Nat}:∀b:α,none=some b->Q s b:=fun b e=>by cases e
def zVy {α:Type}(q:Nat->α->Bool):PT (Option α)->Nat->Nat->Bool
 | .lf,_,_=>true
 | .nd v l r,st,s=>(match v with | some a=>q s a | none=>true) && (zVy q l (2*st) (s+st) && zVy q r (2*st) (s+2*st))
theorem zNa {α:Type}{Q:Nat->α->Prop}{q:Nat->α->Bool}(hq:∀s a,q s a=true->Q s a):∀ {T:PT (Option α)}{st s:Nat},zVy q T st s=true->zBF Q T st s
 | .lf,_,_,_=>trivial
 | .nd v l r,st,s,h=>by
  unfold zVy at h;simp only [Yi] at h;obtain ⟨h1,h2,h3⟩:=h;refine ⟨fun a e=>?_,zNa hq h2,zNa hq h3⟩;subst e;exact hq s a h1
def zS3 (x:AV) (v:Value):Bool:=
 match x,v with
 | .i k n,.int k' n'=>Nat.beq (kc k) (kc k') && eqI n n'
 | .b t,.bool t'=>t == t'
 | .v (.string s),.string s'=>s.data.toList == s'.data.toList
 | .v (.slice none 0 0),.slice none 0 0=>true
 | .v (.pointer none),.pointer none=>true
 | .v (.map none),.map none=>true
 | .v .nilFunc,.nilFunc=>true
 | .v .nilIface,.nilIface=>true
 | _,_=>false
theorem zOm {x:AV}{v:Value}(h:zS3 x v=true):(∀ι fz w,Rel ι fz w x v)/\zFv v=true:=by
 unfold zS3 at h
 split at h
 ·simp only [Yi] at h
  rw [zDl] at h;rw [zFx h.1,of_decide_eq_true h.2];exact ⟨fun _ _ _=>.i _ _,rfl⟩
 ·have:=eq_of_beq h
  subst this;exact ⟨fun _ _ _=>.b _,rfl⟩
 ·rename_i s s'
  have:s.data.toList=s'.data.toList:=by simpa using h
  have h2:s.data=s'.data:=Array.ext' this;have:s=s':=by cases s;cases s';simp_all
  subst this;exact ⟨fun _ _ _=>.v _,rfl⟩
 ·exact ⟨fun _ _ _=>.v _,rfl⟩
 ·exact ⟨fun _ _ _=>.v _,rfl⟩
 ·exact ⟨fun _ _ _=>.v _,rfl⟩
 ·exact ⟨fun _ _ _=>.v _,rfl⟩
 ·exact ⟨fun _ _ _=>.v _,rfl⟩
 ·cases h
def zL9:List AV->List Value->Bool
 | [],[]=>true
 | x::xs,v::vs=>zS3 x v && zL9 xs vs
 | _,_=>false
theorem zIA:∀ {xs:List AV}{vs:List Value},zL9 xs vs=true->∀ι fz w,zA5 ι fz w true xs vs
 | [],[],_=>fun _ _ _=>.nil _
 | [],_::_,h=>by cases h
 | _::_,[],h=>by cases h
 | x::xs,v::vs,h=>by
  unfold zL9 at h;simp only [Yi] at h;obtain ⟨h1,h2⟩:=zOm h.1;exact fun ι fz w=>.cons _ _ _ _ _ (h1 ι fz w) (fun _=>h2) (zIA h.2 ι fz w)
def zId (P:Program):List (Nat×Nat×Bool)->List Field->Bool
 | [],[]=>true
 | p::ps,f::fs=>(match P.info? f.type,P.underlying f.type with
  | some i,some du=>Nat.beq p.1 f.offset && Nat.beq p.2.1 i.size && (p.2.2 == zBZ du)
  | _,_=>false) && zId P ps fs
 | _,_=>false
theorem zHu {P:Program}:∀ {ps:List (Nat×Nat×Bool)}{fs:List Field},zId P ps fs=true->
  ps.length=fs.length/\∀ (j:Nat) (f:Field),fs[j]? = some f->∃i du,P.info? f.type=some i/\P.underlying f.type=some du/\ps[j]? = some (f.offset,i.size,zBZ du)
 | [],[],_=>⟨rfl,fun j f h=>by simp at h⟩
 | [],_::_,h=>by cases h
 | _::_,[],h=>by cases h
 | p::ps,f::fs,h=>by
  unfold zId at h;simp only [Yi] at h;obtain ⟨h1,h2⟩:=h;obtain ⟨h3,h4⟩:=zHu h2;refine ⟨by simp [h3],fun j g hj=>?_⟩;cases j with
  | zero=>
   simp at hj;subst hj
   split at h1
   ·rename_i i du e1 e2
    simp only [Yi] at h1;obtain ⟨⟨h5,h6⟩,h7⟩:=h1;refine ⟨i,du,e1,e2,?_⟩;have h5:=Yg h5;have h6:=Yg h6;have h7:=eq_of_beq h7;rw [<- h5,<- h6,<- h7];rfl
   ·cases h1
  | succ j=>simpa using h4 j g (by simpa using hj)
def tcB (P:Program) (d:TypeDesc) (c:TC):Bool:=
 match c,d with
 | .other,d=>!zBZ d
 | .bool,.bool=>true
 | .int k,.int k'=>Nat.beq (kc k) (kc k')
 | .str,.string=>true
 | .ptr,.pointer _=>true
 | .fnc,.func _ _ _=>true
 | .slice e,.slice e'=>Nat.beq e e'
 | .arr n e,.array n' e'=>Nat.beq n n' && Nat.beq e e'
 | .map k e,.map k' e'=>Nat.beq k k' && Nat.beq e e'
 | .struct fs,.struct fields=>zId P fs fields.toList
 | _,_=>false
theorem zVk {P:Program}{d:TypeDesc}{c:TC}(h:tcB P d c=true):zGS P d c:=by
 unfold tcB at h
 split at h
 ·simpa [zGS] using h
 ·rfl
 ·rw [zFx h];rfl
 ·rfl
 ·exact ⟨_,rfl⟩
 ·exact ⟨_,_,_,rfl⟩
 ·rw [Yg h];rfl
 ·simp only [Yi] at h
  rw [Yg h.1,Yg h.2];rfl
 ·simp only [Yi] at h
  rw [Yg h.1,Yg h.2];rfl
 ·rename_i fs fields
  obtain ⟨h1,h2⟩:=zHu h;exact ⟨fields,rfl,by rw [h1,Array.length_toList],fun j f hj=>h2 j f (by simpa using hj)⟩
 ·cases h
def zDM (P:Program):Nat->TypeId->Option Nat
 | 0,_=>none
 | d+1,t=>match P.underlying t,P.info? t with
  | some (.int _),some i=>if Nat.beq i.size 1 then some 1 else none
  | some (.struct fields),some i=>match leafEnd (zDM P d) fields.toList 0 with
   | some e=>if !P.stoodInHeld t && Nat.beq i.size e then some i.size else none
   | none=>none
  | _,_=>none
where
 leafEnd (L:TypeId->Option Nat):List Field->Nat->Option Nat
  | [],o=>some o
  | f::fs,o=>match L f.type with
   | some s=>if Nat.beq f.offset o && !(f.name == "_") then leafEnd L fs (o+s) else none
   | none=>none
theorem zH2 {L:TypeId->Option Nat}{M:TypeId->Nat->Prop}(hL:∀t s,L t=some s->M t s):∀ {fs:List Field}{o e:Nat},zDM.leafEnd L fs o=some e->zFO M fs o e
 | [],o,e,h=>by cases h;rfl
 | f::fs,o,e,h=>by
  unfold zDM.leafEnd at h
  split at h
  ·rename_i s hs
   split at h
   ·rename_i hc
    simp only [Yi,Bool.not_eq_true'] at hc;exact ⟨Yg hc.1,by simpa using hc.2,s,hL _ _ hs,zH2 hL h⟩
   ·cases h
  ·cases h
theorem zG1 {P:Program}:∀ {d:Nat}{t:TypeId}{s:Nat},zDM P d t=some s->zHW P d t s
 | 0,t,s,h=>by cases h
 | d+1,t,s,h=>by
  unfold zDM at h
  split at h
  ·rename_i k i h1 h2
   split at h
   ·rename_i hc
    injection h with h
    subst h;exact .inl ⟨k,i,h1,h2,Yg hc,rfl⟩
   ·cases h
  ·rename_i fields i h1 h2
   split at h
   ·rename_i e he
    split at h
    ·rename_i hc
     injection h with h
     subst h;simp only [Yi,Bool.not_eq_true'] at hc;obtain ⟨h3,h4⟩:=hc;rw [<- Yg h4] at he;exact .inr ⟨fields,i,h1,h3,h2,rfl,zH2 (L:=zDM P d) (M:=zHW P d) (fun t s h=>zG1 h) he⟩
    ·cases h
   ·cases h
  ·cases h
def zhI (z:Value):Bool:=match z with | .agg _=>true | _=>false
def tiB (P:Program) (t:Nat) (ti:TI):Bool:=
 match P.info? t,P.underlying t with
 | some i,some d=>(match i.zero with
  | some z=>Nat.beq i.size ti.size && Nat.beq i.bytes ti.bytes && zL9 ti.zero z.cells.toList && Nat.beq ti.zero.length ti.size && (zhI z == zBZ d) && tcB P d ti.c
  | none=>false) && (!ti.eq || (!P.eqGuardType P.depth t && (match d with | .struct _=>true | _=>false) && (match zDM P 9 t with | some s=>Nat.beq s ti.size | none=>false)))
 | _,_=>false
theorem zVl {P:Program}{t:Nat}{ti:TI}(h:tiB P t ti=true):zMV P t ti:=by
 unfold tiB at h
 split at h
 ·rename_i i d h1 h2
  simp only [Yi] at h;obtain ⟨h3,h4⟩:=h
  split at h3
  ·rename_i z hz
   simp only [Yi] at h3;obtain ⟨⟨⟨⟨⟨g1,g2⟩,g3⟩,g4⟩,g5⟩,g6⟩:=h3;have g5:=eq_of_beq g5;refine ⟨⟨i,z,d,h1,Yg g1,Yg g2,hz,zIA g3,Yg g4,fun h=>?_,fun h=>?_,h2,zVk g6⟩,fun he=>?_⟩
   ·rw [h] at g5
    cases z <;> first | rfl | cases g5
   ·rw [h] at g5
    cases z <;> first | rfl | cases g5
   ·rw [he] at h4
    simp only [Bool.not_true,Bool.false_or,Yi,Bool.not_eq_true'] at h4;obtain ⟨⟨k1,k2⟩,k3⟩:=h4;refine ⟨k1,?_,?_⟩
    ·split at k2
     ·exact ⟨_,h2⟩
     ·cases k2
    ·split at k3
     ·rename_i s hs
      rw [<- Yg k3];exact zG1 hs
     ·cases k3
  ·cases h3
 ·cases h
def gB (t:Bool) (r:Res):Res:=Bool.rec .fail r t
theorem zP9 (E:Env) (ops:Array Oper) (draw:Bool):zR0 E 0 (fun call=>zHa E call ops draw) ops draw:=by
 intro call T H n x T' H' n' h;obtain ⟨es,rfl,hl⟩:=zKD h;exact ⟨_,h,(zG7 _ _ (by rw [Yu];omega)).symm⟩
def zB4 (E:Env):Code->CC E 0
 | .skip=>.skip
 | .ret=>.ret
 | .exit i=>.exit i
 | .label l=>.label l
 | .seq a b=>.seq (zB4 E a) (zB4 E b)
 | .cond c a b=>.cond c (zB4 E a) (zB4 E b)
 | .block id b=>.block id (zB4 E b)
 | .loop b=>.loop (zB4 E b)
 | .scope b=>.scope (zB4 E b)
 | .region id ops draw=>.reg id ops draw (fun call=>zHa E call ops draw) (zP9 E ops draw)
 | c=>.bad c
def zj0 (E:Env) (f:Func):CC E 0:=Option.rec (.bad .skip) (zB4 E) f.body
def ps (p:Option Hp) (k:Hp->Res):Res:=Option.rec .fail k p
end Go.Proofs.YtchkfjgcbbbffaaGreatDoor
end
