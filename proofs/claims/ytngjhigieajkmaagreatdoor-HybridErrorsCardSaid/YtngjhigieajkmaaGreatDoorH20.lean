/- Bundle 20: what the law's walk stands on: Q34. -/
import Derived.Test.YtngjhigieajkmaaGreatDoorH12
import Derived.Test.YtngjhigieajkmaaGreatDoorH14
set_option maxRecDepth 100000
set_option maxHeartbeats 20000000
set_option linter.all false
noncomputable section
namespace Go.Proofs.YtngjhigieajkmaaGreatDoor
open Go.RowKit Pl Go.Shelf
def six (H:Hp) (x:AV):Option (Nat×List AV):=match x with
 | .v (.slice none 0 0)=>some (0,[])
 | .sl id off len 6 cap=>zA6 (zBR H 6 len (.sl id off len 6 cap)) fun es=>some (len,es)
 | _=>none
def zwb (f:List AV->Option Xn) (m:Nat):List AV->Option (List Xn):=
 Nat.rec (motive:=fun _=>List AV->Option (List Xn)) (fun _=>some []) (fun _ ih cs=>zA6 (f (cs.take 6)) fun x=>zA6 (ih (cs.drop 6)) fun xs=>some (x::xs)) m
def ztN (H:Hp) (ih:List AV->Option Xn) (cs:List AV):Option Xn:=match cs with
 | [.i .i64 k,.i .i64 a,.i .i64 b,.v (.string s),.i .i64 n,l]=>zA6 (six H l) fun p=>zA6 (zwb ih p.1 p.2) fun xs=>some (.mk k a b s n xs)
 | _=>none
def zwc (H:Hp) (fuel:Nat):List AV->Option Xn:=
 Nat.rec (motive:=fun _=>List AV->Option Xn) (fun _=>none) (fun _ ih cs=>ztN H ih cs) fuel
def zsX:zAz:=fun H a=>match a with
 | [.agg cs]=>zA6 (zwc H 20 cs) fun x=>Bool.rec none (match x.vars with | []=>some (.v (.slice none 0 0)) | [s]=>some (.fsl [.v (.string s)] 1) | _=>none) (xvP x)
 | _=>none
section
variable {G:Gl}{ι:Io}{fz:Nat->Prop}{H:Hp}{w:World}
theorem zt5 {x:AV}{m:Nat}{es:List AV}{u:Value}(h:six H x=some (m,es)) (hI:Inv G ι fz (hget H) w) (hr:Rel ι fz w x u) :
  ∃A c vs,u=.slice A m c/\m<=c/\c<=9223372036854775807/\zA5 ι fz w true es vs/\vs.length=m*6/\(0<m->∃b off,A=some ⟨b,off,none⟩/\b<w.heap.size/\∀ (j:Nat) v,vs[j]? = some v->w.cell? ⟨b,off+j,none⟩=some v):=by
 unfold six at h
 split at h
 ·injection h with h
  injection h with h1 h2
  subst h1 h2;cases hr;exact ⟨none,0,[],rfl,Ya _,by omega,.nil _,rfl,fun h=>absurd h (by omega)⟩
 ·rename_i id off len cap
  obtain ⟨cs,h1,h3⟩:=zAW h;injection h3 with h3
  injection h3 with h4 h5
  subst h4 h5;cases hr with
  | sl _ _ _ _ _ b s c' hi hs hl hcap hmx=>
   unfold zBR at h1;dsimp only at h1
   split at h1
   ·rename_i cs0 e
    obtain ⟨b',s',hi',hnf,vs,rest,ty,g1,g2,g3⟩:=hI.blk id _ e;rw [hi] at hi';injection hi' with hi'
    injection hi' with e1 e2
    subst e1 e2;rw [zBr] at h1;obtain ⟨rfl,hl2⟩:=zCe h1;have hr2:=(g2.drop off).take (Nat.mul len 6);refine ⟨_,_,_,rfl,hl,hmx,hr2,by rw [<- hr2.len];exact hl2,fun _=>⟨b,off,rfl,(Yv.1 g1).1,fun j v hj=>?_⟩⟩;have hv2:(vs.drop off)[j]? = some v:=by
     rw [List.getElem?_take] at hj
     split at hj
     ·exact hj
     ·cases hj
    have:=zBY (zEZ g1) off j _ hv2
    rwa [Nat.zero_add] at this
   ·cases h1
 ·cases h
theorem zrx {f:List AV->Option Xn}{R:List Value->Xn->Prop}(hf:∀cs x vs,f cs=some x->zA5 ι fz w true cs vs->R vs x):∀ {m:Nat}{cs:List AV}{xs:List Xn}{vs:List Value},zwb f m cs=some xs->zA5 ι fz w true cs vs->vs.length=m*6->
  xs.length=m/\∀ (j:Nat) (x:Xn),xs[j]? = some x->R ((vs.drop (j*6)).take 6) x
 | 0,cs,xs,vs,h,_,_=>by
  cases h;exact ⟨rfl,fun j x hj=>by simp at hj⟩
 | m+1,cs,xs,vs,h,hr,hl=>by
  have h':(zA6 (f (cs.take 6)) fun x=>zA6 (zwb f m (cs.drop 6)) fun xs=>some (x::xs))=some xs:=h;obtain ⟨x,h1,h2⟩:=zAW h';obtain ⟨ys,h3,h4⟩:=zAW h2;cases h4;obtain ⟨g1,g2⟩:=zrx hf h3 (hr.drop 6) (by rw [List.length_drop];omega);refine ⟨by rw [List.length_cons,g1],fun j y hj=>?_⟩;cases j with
  | zero=>
   simp at hj;subst hj;rw [Nat.zero_mul,List.drop_zero];exact hf _ _ _ h1 (hr.take 6)
  | succ j=>
   have:=g2 j y (by simpa using hj);rw [List.drop_drop] at this
   rwa [show (j+1)*6=6+j*6 by omega]
theorem zry (hI:Inv G ι fz (hget H) w):∀ {d:Nat}{cs:List AV}{x:Xn}{vs:List Value},zwc H d cs=some x->zA5 ι fz w true cs vs->RX (fun b=>b<w.heap.size) d w vs x
 | 0,_,_,_,h,_=>by cases h
 | d+1,cs,x,vs,h,hr=>by
  change ztN H (zwc H d) cs=some x at h
  unfold ztN at h
  split at h
  ·rename_i k a b s n l
   obtain ⟨⟨m,es⟩,h1,h2⟩:=zAW h;obtain ⟨xs,h3,h4⟩:=zAW h2;cases h4;cases hr with
   | cons _ _ v0 _ vs r0 _ hr=>
   cases hr with
   | cons _ _ v1 _ vs r1 _ hr=>
   cases hr with
   | cons _ _ v2 _ vs r2 _ hr=>
   cases hr with
   | cons _ _ v3 _ vs r3 _ hr=>
   cases hr with
   | cons _ _ v4 _ vs r4 _ hr=>
   cases hr with
   | cons _ _ v5 _ vs r5 _ hr=>
   cases hr;cases r0;cases r1;cases r2;cases r3;cases r4;obtain ⟨A,c,us,rfl,g1,g2,g3,g4,g5⟩:=zt5 h1 hI r5;obtain ⟨g6,g7⟩:=zrx (R:=fun vs x=>RX (fun b=>b<w.heap.size) d w vs x) (fun cs x vs he hv=>zry hI he hv) h3 g3 g4;replace g6:xs.length=m:=g6;refine ⟨A,m,c,rfl,⟨g6,g1,g2,fun hm=>?_⟩,fun hm=>?_⟩
   ·obtain ⟨b,off,rfl,hb,hc⟩:=g5 hm
    refine ⟨b,off,rfl,hb,fun j x hj=>?_⟩;have hjl:j<m:=by rw [<- g6];exact (Yb.1 hj).1
    refine ⟨_,?_,g7 j x hj,fun i v hv=>?_⟩
    ·rw [Yr,List.length_drop];omega
    ·have hi:i<6:=by
      have:=(Yb.1 hv).1;rw [Yr] at this;omega
     rw [Xf hi,List.getElem?_drop] at hv;rw [Nat.add_assoc];exact hc _ v hv
   ·obtain ⟨b,off,rfl,hb,hc⟩:=g5 hm
    exact ⟨b,off,rfl,hb⟩
  ·cases h
end
theorem ztR:zAF 158 zsX:=fun H args v h n=>by
 refine zA2.one Tryz.func158 (by kernel_rfl) rfl (fun ι fz w vals hr hI=>?_) n;unfold zsX at h
 split at h
 ·rename_i cs
  obtain ⟨x,h1,h2⟩:=zAW h;cases hx:xvP x
  ·rw [hx] at h2;cases h2
  ·rw [hx] at h2
   cases hr with
   | cons _ _ u _ us hu _ hs=>
    cases hs;cases hu with
    | agg _ vs hvs=>
     refine (zsB _ 20 vs x w (zry hI h1 hvs) hx (fun b hb=>hb)).mono ?_;rintro e w' ⟨A,n,c,ns,rfl,hS,hm,hb,h0,hs1⟩
     dsimp only at h2
     split at h2
     ·rename_i hv
      cases h2;obtain ⟨rfl,rfl⟩:=h0 hv;have hns:ns=[]:=by
       cases ns with
       | nil=>rfl
       | cons s r=>
        have:=(hm s).1 (by simp);rw [hv] at this;cases this
      subst hns;have hn:n=0:=by have:=hS.len;simpa using this.symm
      subst hn;exact ⟨_,rfl,hb,fun fz' _ _=>.v _⟩
     ·rename_i s hv
      cases h2;obtain ⟨rfl,g,rfl,hg⟩:=hs1 s hv;have hn:n=1:=by have:=hS.len;simpa using this.symm
      subst hn;refine ⟨_,rfl,hb,fun fz' _ hz=>?_⟩;obtain ⟨b,off,e,hlt,hc⟩:=hS.at_ (by omega);injection e with e
      injection e with e1 e2
      subst e1 e2;obtain ⟨us,_,hR,hcc⟩:=hc 0 s rfl;unfold zql at hR;subst hR;refine .fsl _ [.string s] _ _ _ _ (hz _ hg hlt) (fun j v hj=>?_) hS.cap (.cons _ _ _ _ _ (.v _) (fun _=>rfl) (.nil _));have hj0:j=0:=by
       have:=(Yb.1 hj).1
       simpa using this
      subst hj0;have:=hcc 0 v hj
      simpa using this
     ·cases h2
 ·cases h
end Go.Proofs.YtngjhigieajkmaaGreatDoor
end
