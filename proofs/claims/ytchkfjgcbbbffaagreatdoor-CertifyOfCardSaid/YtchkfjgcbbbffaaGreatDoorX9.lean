/- Bundle 9: what the law's walk stands on: C2, C3, S3, S4, C4, C5. -/
import Derived.Laws.EntriesVeiled
import Derived.Test.YtchkfjgcbbbffaaGreatDoorX3
import Derived.Test.YtchkfjgcbbbffaaGreatDoorX4
import Derived.Test.YtchkfjgcbbbffaaGreatDoorX8
set_option maxRecDepth 100000
set_option maxHeartbeats 20000000
set_option linter.all false
noncomputable section
namespace Go.Proofs.YtchkfjgcbbbffaaGreatDoor
open Go.RowKit Pl Go.Shelf
def zVv (b:Bool) (w:World) (e:Ending) (w':World):Prop:=∃r:Int,e=.returned (.int .i64 r)/\decide (0<=r)=b/\Below w.heap.size w w'
def eqF {α:Type}(q:α->α->Bool):List α->List α->Bool
 | [],[]=>true
 | x::xs,y::ys=>q x y && eqF q xs ys
 | _,_=>false
theorem zGk {α:Type}(q:α->α->Bool):∀ (xs ys:List α),xs.length≠ys.length->eqF q xs ys=false:=by
 intro xs
 induction xs with
 | nil=>intro ys h;cases ys <;> simp_all [eqF]
 | cons x xs ih=>
  intro ys h;cases ys with
  | nil=>rfl
  | cons y ys=>simp [eqF];intro _;exact ih ys (by simpa using h)
theorem zIb {α:Type}(q:α->α->Bool):∀ (xs ys:List α),xs.length=ys.length->(∀ (j:Nat) (x y:α),xs[j]? = some x->ys[j]? = some y->q x y=true)->eqF q xs ys=true:=by
 intro xs
 induction xs with
 | nil=>intro ys h _;cases ys <;> simp_all [eqF]
 | cons x xs ih=>
  intro ys h hq;cases ys with
  | nil=>simp at h
  | cons y ys=>
   simp only [eqF,Yi];exact ⟨hq 0 x y rfl rfl,ih ys (by simpa using h) (fun j a b ha hb=>hq (j+1) a b (by simpa using ha) (by simpa using hb))⟩
theorem zLj {α:Type}(q:α->α->Bool):∀ (xs ys:List α) (j:Nat) (x y:α),xs[j]? = some x->ys[j]? = some y->q x y=false->eqF q xs ys=false:=by
 intro xs
 induction xs with
 | nil=>intro ys j x y h;simp at h
 | cons a xs ih=>
  intro ys j x y hx hy hq;cases ys with
  | nil=>simp at hy
  | cons b ys=>
   cases j with
   | zero=>
    simp at hx hy;subst hx hy;simp [eqF,hq]
   | succ j=>
    simp at hx hy;have:=ih ys j x y hx hy hq;simp [eqF,this]
theorem zEN {α:Type}(p:α->Bool) (xs:List α) (h:∀ (j:Nat) (x:α),xs[j]? = some x->p x=false):xs.any p=false:=by
 rw [List.any_eq_false];intro x hx;obtain ⟨j,hj⟩:=List.getElem?_of_mem hx;simp [h j x hj]
theorem zBC {α:Type}(p:α->Bool) (xs:List α) (j:Nat) (x:α) (h:xs[j]? = some x) (hp:p x=true):xs.any p=true:=
 List.any_eq_true.2 ⟨x,Yk h,hp⟩
theorem zK2 (p:Dy->Bool) (g:Nat) (lb:Array Value) (A:Option Addr) (n c:Nat) (xs:List Dy) (w:World) (h:Sl 3 RD w A n c xs)
  (eg:∀args W,(callFunc g args).run Tryz.prog W=.ok (.enter g args) W)
  (hp:∀W vs x,Below w.heap.size w W->x∈xs->RD W vs x->Calls Tryz.prog g (#[.agg vs.toArray]++lb) W (zBW (p x) W)) :
  Calls Tryz.prog 87 #[.slice A n c,.func (.func g) #[] lb] w (zVv (xs.any p) w):=by
 have hn:=h.cap;have hm:=h.max;have HL:=Zh h.len;have HS:=Zh h;have HP:=Zh hp;clear h hp;go_enter Tryz.func87,Tryz.ntmps87
 go_wp2_with fail
 go_loopw [8] (fun i wr=>∃j:Nat,j<=n/\i=.int .i64 j/\Hid (∀m x,m<j->xs[m]? = some x->p x=false)/\Below w.heap.size w wr) (fun i _=>n - (intOf i).toNat)
 case atStart=>exact ⟨0,Nat.zero_le _,rfl,fun m x hm=>absurd hm (by omega),Yp _ _⟩
 case round=>
  obtain ⟨j,hj,rfl,HZ,hb⟩:=hrel;by_cases hlt:j<n
  ·obtain ⟨b,off,x,vs,rfl,hbl,hx,hk,hR,hc⟩:=HS.out.get hlt
   have hcall:=HP.out wr vs x hb (Yk hx) (zAQ _ _ _ _ hR hb);obtain ⟨A1,n1,c1,rfl,hs1⟩:=hR;have q0:=(hb.cell (p:=⟨b,off+j*3,none⟩) hbl).trans (hc 0 _ rfl);have q1:=(hb.cell (p:=⟨b,off+j*3+1,none⟩) hbl).trans (hc 1 _ rfl);have q2:=(hb.cell (p:=⟨b,off+j*3+2,none⟩) hbl).trans (hc 2 _ rfl);have HX:=Zh hx;clear hx hc hk HP HS;cases hq:p x
   ·rw [hq] at hcall
    have HQ:=Zh hq;clear hq
    go_wp2_with (go_at_fn g;refine hcall.mono ?_;rintro e w' ⟨rfl,hb'⟩)
    go_roundw
    case rel=>exact ⟨j+1,by omega,by go_num,fun m y hm hy=>by
     by_cases hmj:m<j
     ·exact HZ.out m y hmj hy
     ·obtain rfl:m=j:=by omega
      rw [HX.out] at hy;injection hy with hy
      rw [<- hy];exact HQ.out,zAt hb hb' (Ya _)⟩
    case measure=>simp [intOf];omega
   ·rw [hq] at hcall
    have HQ:=Zh hq;clear hq
    go_wp2_with (go_at_fn g;refine hcall.mono ?_;rintro e w' ⟨rfl,hb'⟩)
    go_ret;refine ⟨_,rfl,?_,zAt hb hb' (Ya _)⟩;rw [zBC p xs j x HX.out HQ.out];simp
  ·go_wp2_with fail
   go_ret;refine ⟨_,rfl,?_,hb⟩;rw [zEN p xs (fun m x hx=>HZ.out m x (by
    have:=(Yb.1 hx).1;have:=HL.out;omega) hx)]
   simp
theorem zCA (p:Dy->Bool) (g:Nat) (lb:Array Value) (A:Option Addr) (n c:Nat) (xs:List Dy) (w:World) (h:Sl 3 RD w A n c xs)
  (eg:∀args W,(callFunc g args).run Tryz.prog W=.ok (.enter g args) W)
  (hp:∀W vs x,Below w.heap.size w W->x∈xs->RD W vs x->Calls Tryz.prog g (#[.agg vs.toArray]++lb) W (zBW (p x) W)) :
  Calls Tryz.prog 33 #[.slice A n c,.func (.func g) #[] lb] w (zBW (xs.any p) w):=by
 have HC:=Zh (zK2 p g lb A n c xs w h eg hp);clear h hp;go_enter Tryz.func33,Tryz.ntmps33
 go_wp2_with fail
 refine HC.out.mono ?_;rintro e w' ⟨r,rfl,hr,hb⟩
 have HR:=Zh hr;clear hr HC;go_wp2_with fail
 go_ret;exact ⟨by rw [<- HR.out];rfl,hb⟩
theorem zK3 (p:Iv->Bool) (g:Nat) (lb:Array Value) (A:Option Addr) (n c:Nat) (xs:List Iv) (w:World) (h:Sl 7 RI w A n c xs)
  (eg:∀args W,(callFunc g args).run Tryz.prog W=.ok (.enter g args) W)
  (hp:∀W vs x,Below w.heap.size w W->x∈xs->RI W vs x->Calls Tryz.prog g (#[.agg vs.toArray]++lb) W (zBW (p x) W)) :
  Calls Tryz.prog 88 #[.slice A n c,.func (.func g) #[] lb] w (zVv (xs.any p) w):=by
 have hn:=h.cap;have hm:=h.max;have HL:=Zh h.len;have HS:=Zh h;have HP:=Zh hp;clear h hp;go_enter Tryz.func88,Tryz.ntmps88
 go_wp2_with fail
 go_loopw [8] (fun i wr=>∃j:Nat,j<=n/\i=.int .i64 j/\Hid (∀m x,m<j->xs[m]? = some x->p x=false)/\Below w.heap.size w wr) (fun i _=>n - (intOf i).toNat)
 case atStart=>exact ⟨0,Nat.zero_le _,rfl,fun m x hm=>absurd hm (by omega),Yp _ _⟩
 case round=>
  obtain ⟨j,hj,rfl,HZ,hb⟩:=hrel;by_cases hlt:j<n
  ·obtain ⟨b,off,x,vs,rfl,hbl,hx,hk,hR,hc⟩:=HS.out.get hlt
   have hcall:=HP.out wr vs x hb (Yk hx) (zAX _ _ _ _ hR hb);obtain ⟨A1,n1,c1,A2,n2,c2,rfl,hs1,hs2⟩:=hR;have q0:=(hb.cell (p:=⟨b,off+j*7,none⟩) hbl).trans (hc 0 _ rfl);have q1:=(hb.cell (p:=⟨b,off+j*7+1,none⟩) hbl).trans (hc 1 _ rfl);have q2:=(hb.cell (p:=⟨b,off+j*7+2,none⟩) hbl).trans (hc 2 _ rfl);have q3:=(hb.cell (p:=⟨b,off+j*7+3,none⟩) hbl).trans (hc 3 _ rfl);have q4:=(hb.cell (p:=⟨b,off+j*7+4,none⟩) hbl).trans (hc 4 _ rfl);have q5:=(hb.cell (p:=⟨b,off+j*7+5,none⟩) hbl).trans (hc 5 _ rfl);have q6:=(hb.cell (p:=⟨b,off+j*7+6,none⟩) hbl).trans (hc 6 _ rfl);have HX:=Zh hx;clear hx hc hk HP HS;cases hq:p x
   ·rw [hq] at hcall
    have HQ:=Zh hq;clear hq
    go_wp2_with (go_at_fn g;refine hcall.mono ?_;rintro e w' ⟨rfl,hb'⟩)
    go_roundw
    case rel=>exact ⟨j+1,by omega,by go_num,fun m y hm hy=>by
     by_cases hmj:m<j
     ·exact HZ.out m y hmj hy
     ·obtain rfl:m=j:=by omega
      rw [HX.out] at hy;injection hy with hy
      rw [<- hy];exact HQ.out,zAt hb hb' (Ya _)⟩
    case measure=>simp [intOf];omega
   ·rw [hq] at hcall
    have HQ:=Zh hq;clear hq
    go_wp2_with (go_at_fn g;refine hcall.mono ?_;rintro e w' ⟨rfl,hb'⟩)
    go_ret;refine ⟨_,rfl,?_,zAt hb hb' (Ya _)⟩;rw [zBC p xs j x HX.out HQ.out];simp
  ·go_wp2_with fail
   go_ret;refine ⟨_,rfl,?_,hb⟩;rw [zEN p xs (fun m x hx=>HZ.out m x (by
    have:=(Yb.1 hx).1;have:=HL.out;omega) hx)]
   simp
theorem zCv (p:Iv->Bool) (g:Nat) (lb:Array Value) (A:Option Addr) (n c:Nat) (xs:List Iv) (w:World) (h:Sl 7 RI w A n c xs)
  (eg:∀args W,(callFunc g args).run Tryz.prog W=.ok (.enter g args) W)
  (hp:∀W vs x,Below w.heap.size w W->x∈xs->RI W vs x->Calls Tryz.prog g (#[.agg vs.toArray]++lb) W (zBW (p x) W)) :
  Calls Tryz.prog 36 #[.slice A n c,.func (.func g) #[] lb] w (zBW (xs.any p) w):=by
 have HC:=Zh (zK3 p g lb A n c xs w h eg hp);clear h hp;go_enter Tryz.func36,Tryz.ntmps36
 go_wp2_with fail
 refine HC.out.mono ?_;rintro e w' ⟨r,rfl,hr,hb⟩
 have HR:=Zh hr;clear hr HC;go_wp2_with fail
 go_ret;exact ⟨by rw [<- HR.out];rfl,hb⟩
theorem zK5 (p:(List Dy)->Bool) (g:Nat) (lb:Array Value) (A:Option Addr) (n c:Nat) (xs:List (List Dy)) (w:World) (h:Sl 1 RM w A n c xs)
  (eg:∀args W,(callFunc g args).run Tryz.prog W=.ok (.enter g args) W)
  (hp:∀W vs x,Below w.heap.size w W->x∈xs->RM W vs x->Calls Tryz.prog g (#[(vs[0]?).getD undef]++lb) W (zBW (p x) W)) :
  Calls Tryz.prog 89 #[.slice A n c,.func (.func g) #[] lb] w (zVv (xs.any p) w):=by
 have hn:=h.cap;have hm:=h.max;have HL:=Zh h.len;have HS:=Zh h;have HP:=Zh hp;clear h hp;go_enter Tryz.func89,Tryz.ntmps89
 go_wp2_with fail
 go_loopw [8] (fun i wr=>∃j:Nat,j<=n/\i=.int .i64 j/\Hid (∀m x,m<j->xs[m]? = some x->p x=false)/\Below w.heap.size w wr) (fun i _=>n - (intOf i).toNat)
 case atStart=>exact ⟨0,Nat.zero_le _,rfl,fun m x hm=>absurd hm (by omega),Yp _ _⟩
 case round=>
  obtain ⟨j,hj,rfl,HZ,hb⟩:=hrel;by_cases hlt:j<n
  ·obtain ⟨b,off,x,vs,rfl,hbl,hx,hk,hR,hc⟩:=HS.out.get hlt
   have hcall:=HP.out wr vs x hb (Yk hx) (zAh _ _ _ _ hR hb);obtain ⟨A1,n1,c1,rfl,hs1⟩:=hR;have qt:=hc 0 _ rfl;rw [Nat.mul_one,Nat.add_zero] at qt;have q0:=(hb.cell (p:=⟨b,off+j,none⟩) hbl).trans qt;have HX:=Zh hx;clear hx hc hk HP HS qt;cases hq:p x
   ·rw [hq] at hcall
    have HQ:=Zh hq;clear hq
    go_wp2_with (go_at_fn g;refine hcall.mono ?_;rintro e w' ⟨rfl,hb'⟩)
    go_roundw
    case rel=>exact ⟨j+1,by omega,by go_num,fun m y hm hy=>by
     by_cases hmj:m<j
     ·exact HZ.out m y hmj hy
     ·obtain rfl:m=j:=by omega
      rw [HX.out] at hy;injection hy with hy
      rw [<- hy];exact HQ.out,zAt hb hb' (Ya _)⟩
    case measure=>simp [intOf];omega
   ·rw [hq] at hcall
    have HQ:=Zh hq;clear hq
    go_wp2_with (go_at_fn g;refine hcall.mono ?_;rintro e w' ⟨rfl,hb'⟩)
    go_ret;refine ⟨_,rfl,?_,zAt hb hb' (Ya _)⟩;rw [zBC p xs j x HX.out HQ.out];simp
  ·go_wp2_with fail
   go_ret;refine ⟨_,rfl,?_,hb⟩;rw [zEN p xs (fun m x hx=>HZ.out m x (by
    have:=(Yb.1 hx).1;have:=HL.out;omega) hx)]
   simp
theorem zCw (p:(List Dy)->Bool) (g:Nat) (lb:Array Value) (A:Option Addr) (n c:Nat) (xs:List (List Dy)) (w:World) (h:Sl 1 RM w A n c xs)
  (eg:∀args W,(callFunc g args).run Tryz.prog W=.ok (.enter g args) W)
  (hp:∀W vs x,Below w.heap.size w W->x∈xs->RM W vs x->Calls Tryz.prog g (#[(vs[0]?).getD undef]++lb) W (zBW (p x) W)) :
  Calls Tryz.prog 39 #[.slice A n c,.func (.func g) #[] lb] w (zBW (xs.any p) w):=by
 have HC:=Zh (zK5 p g lb A n c xs w h eg hp);clear h hp;go_enter Tryz.func39,Tryz.ntmps39
 go_wp2_with fail
 refine HC.out.mono ?_;rintro e w' ⟨r,rfl,hr,hb⟩
 have HR:=Zh hr;clear hr HC;go_wp2_with fail
 go_ret;exact ⟨by rw [<- HR.out];rfl,hb⟩
theorem zK4 (p:Lk->Bool) (g:Nat) (lb:Array Value) (A:Option Addr) (n c:Nat) (xs:List Lk) (w:World) (h:Sl 8 RL w A n c xs)
  (eg:∀args W,(callFunc g args).run Tryz.prog W=.ok (.enter g args) W)
  (hp:∀W vs x,Below w.heap.size w W->x∈xs->RL W vs x->Calls Tryz.prog g (#[.agg vs.toArray]++lb) W (zBW (p x) W)) :
  Calls Tryz.prog 90 #[.slice A n c,.func (.func g) #[] lb] w (zVv (xs.any p) w):=by
 have hn:=h.cap;have hm:=h.max;have HL:=Zh h.len;have HS:=Zh h;have HP:=Zh hp;clear h hp;go_enter Tryz.func90,Tryz.ntmps90
 go_wp2_with fail
 go_loopw [8] (fun i wr=>∃j:Nat,j<=n/\i=.int .i64 j/\Hid (∀m x,m<j->xs[m]? = some x->p x=false)/\Below w.heap.size w wr) (fun i _=>n - (intOf i).toNat)
 case atStart=>exact ⟨0,Nat.zero_le _,rfl,fun m x hm=>absurd hm (by omega),Yp _ _⟩
 case round=>
  obtain ⟨j,hj,rfl,HZ,hb⟩:=hrel;by_cases hlt:j<n
  ·obtain ⟨b,off,x,vs,rfl,hbl,hx,hk,hR,hc⟩:=HS.out.get hlt
   have hcall:=HP.out wr vs x hb (Yk hx) (zBt _ _ _ _ hR hb);obtain ⟨A1,n1,c1,A2,n2,c2,A3,n3,c3,A4,n4,c4,A5,n5,c5,A6,n6,c6,rfl,hs1,hs2,hs3,hs4,hs5,hs6⟩:=hR;have q0:=(hb.cell (p:=⟨b,off+j*8,none⟩) hbl).trans (hc 0 _ rfl);have q1:=(hb.cell (p:=⟨b,off+j*8+1,none⟩) hbl).trans (hc 1 _ rfl);have q2:=(hb.cell (p:=⟨b,off+j*8+2,none⟩) hbl).trans (hc 2 _ rfl);have q3:=(hb.cell (p:=⟨b,off+j*8+3,none⟩) hbl).trans (hc 3 _ rfl);have q4:=(hb.cell (p:=⟨b,off+j*8+4,none⟩) hbl).trans (hc 4 _ rfl);have q5:=(hb.cell (p:=⟨b,off+j*8+5,none⟩) hbl).trans (hc 5 _ rfl);have q6:=(hb.cell (p:=⟨b,off+j*8+6,none⟩) hbl).trans (hc 6 _ rfl);have q7:=(hb.cell (p:=⟨b,off+j*8+7,none⟩) hbl).trans (hc 7 _ rfl);have HX:=Zh hx;clear hx hc hk HP HS;cases hq:p x
   ·rw [hq] at hcall
    have HQ:=Zh hq;clear hq
    go_wp2_with (go_at_fn g;refine hcall.mono ?_;rintro e w' ⟨rfl,hb'⟩)
    go_roundw
    case rel=>exact ⟨j+1,by omega,by go_num,fun m y hm hy=>by
     by_cases hmj:m<j
     ·exact HZ.out m y hmj hy
     ·obtain rfl:m=j:=by omega
      rw [HX.out] at hy;injection hy with hy
      rw [<- hy];exact HQ.out,zAt hb hb' (Ya _)⟩
    case measure=>simp [intOf];omega
   ·rw [hq] at hcall
    have HQ:=Zh hq;clear hq
    go_wp2_with (go_at_fn g;refine hcall.mono ?_;rintro e w' ⟨rfl,hb'⟩)
    go_ret;refine ⟨_,rfl,?_,zAt hb hb' (Ya _)⟩;rw [zBC p xs j x HX.out HQ.out];simp
  ·go_wp2_with fail
   go_ret;refine ⟨_,rfl,?_,hb⟩;rw [zEN p xs (fun m x hx=>HZ.out m x (by
    have:=(Yb.1 hx).1;have:=HL.out;omega) hx)]
   simp
theorem zEP (p:Lk->Bool) (g:Nat) (lb:Array Value) (A:Option Addr) (n c:Nat) (xs:List Lk) (w:World) (h:Sl 8 RL w A n c xs)
  (eg:∀args W,(callFunc g args).run Tryz.prog W=.ok (.enter g args) W)
  (hp:∀W vs x,Below w.heap.size w W->x∈xs->RL W vs x->Calls Tryz.prog g (#[.agg vs.toArray]++lb) W (zBW (p x) W)) :
  Calls Tryz.prog 41 #[.slice A n c,.func (.func g) #[] lb] w (zBW (xs.any p) w):=by
 have HC:=Zh (zK4 p g lb A n c xs w h eg hp);clear h hp;go_enter Tryz.func41,Tryz.ntmps41
 go_wp2_with fail
 refine HC.out.mono ?_;rintro e w' ⟨r,rfl,hr,hb⟩
 have HR:=Zh hr;clear hr HC;go_wp2_with fail
 go_ret;exact ⟨by rw [<- HR.out];rfl,hb⟩
theorem zKs (q:Dy->Dy->Bool) (g:Nat) (lb:Array Value) (A B:Option Addr) (n c m d:Nat) (xs ys:List Dy) (w:World) (h:Sl 3 RD w A n c xs) (h':Sl 3 RD w B m d ys)
  (eg:∀args W,(callFunc g args).run Tryz.prog W=.ok (.enter g args) W)
  (hp:∀W vs us x y,Below w.heap.size w W->x∈xs->y∈ys->RD W vs x->RD W us y->Calls Tryz.prog g (#[.agg vs.toArray,.agg us.toArray]++lb) W (zBW (q x y) W)) :
  Calls Tryz.prog 243 #[.slice A n c,.slice B m d,.func (.func g) #[] lb] w (zBW (eqF q xs ys) w):=by
 have hn:=h.cap;have hm:=h.max;have hn':=h'.cap;have hm':=h'.max;have HL:=Zh h.len;have HL':=Zh h'.len;have HS:=Zh h;have HS':=Zh h';have HP:=Zh hp;clear h h' hp;by_cases hnm:n=m
 ·subst hnm
  go_enter Tryz.func243,Tryz.ntmps243
  go_wp2_with fail
  go_loopw [17] (fun i wr=>∃j:Nat,j<=n/\i=.int .i64 j/\Hid (∀m x y,m<j->xs[m]? = some x->ys[m]? = some y->q x y=true)/\Below w.heap.size w wr) (fun i _=>n - (intOf i).toNat)
  case atStart=>exact ⟨0,Nat.zero_le _,rfl,fun m x y hm=>absurd hm (by omega),Yp _ _⟩
  case round=>
   obtain ⟨j,hj,rfl,HZ,hb⟩:=hrel;by_cases hlt:j<n
   ·obtain ⟨b,off,x,vs,rfl,hbl,hx,hk,hR,hc⟩:=HS.out.get hlt
    obtain ⟨b',off',y,us,rfl,hbl',hy,hk',hR',hc'⟩:=HS'.out.get hlt;have hRx:=zAQ _ _ _ _ hR hb;have hRy:=zAQ _ _ _ _ hR' hb;have hcall:=fun W (hW:Below wr.heap.size wr W)=>HP.out W vs us x y (zAt hb hW (Ya _)) (Yk hx) (Yk hy) (zAQ _ _ _ _ hRx hW) (zAQ _ _ _ _ hRy hW)
    obtain ⟨A1,n1,c1,rfl,hs1⟩:=hR;obtain ⟨Ax1,nx1,cx1,rfl,hx1⟩:=hR';have q0:=(hb.cell (p:=⟨b,off+j*3,none⟩) hbl).trans (hc 0 _ rfl);have q1:=(hb.cell (p:=⟨b,off+j*3+1,none⟩) hbl).trans (hc 1 _ rfl);have q2:=(hb.cell (p:=⟨b,off+j*3+2,none⟩) hbl).trans (hc 2 _ rfl);have r0:=(hb.cell (p:=⟨b',off' + j*3,none⟩) hbl').trans (hc' 0 _ rfl);have r1:=(hb.cell (p:=⟨b',off' + j*3+1,none⟩) hbl').trans (hc' 1 _ rfl);have r2:=(hb.cell (p:=⟨b',off' + j*3+2,none⟩) hbl').trans (hc' 2 _ rfl);have hwr:b' < wr.heap.size:=Yh hbl' hb.size;replace r0:=((zAE wr (.cells #[.bool x.neg,.slice A1 n1 c1,.int .i64 x.e] 41)).cell (p:=⟨b',off' + j*3,none⟩) hwr).trans r0;replace r1:=((zAE wr (.cells #[.bool x.neg,.slice A1 n1 c1,.int .i64 x.e] 41)).cell (p:=⟨b',off' + j*3+1,none⟩) hwr).trans r1;replace r2:=((zAE wr (.cells #[.bool x.neg,.slice A1 n1 c1,.int .i64 x.e] 41)).cell (p:=⟨b',off' + j*3+2,none⟩) hwr).trans r2;clear hwr;have HX:=Zh hx;have HY:=Zh hy;clear hx hy hc hc' hk hk' hRx hRy HP HS HS';have hb2:Below wr.heap.size wr ((wr.alloc (.cells #[.bool x.neg,.slice A1 n1 c1,.int .i64 x.e] 41)).alloc (.cells #[.bool y.neg,.slice Ax1 nx1 cx1,.int .i64 y.e] 41)):=zAA (zAE wr (.cells #[.bool x.neg,.slice A1 n1 c1,.int .i64 x.e] 41)) (zAE (wr.alloc (.cells #[.bool x.neg,.slice A1 n1 c1,.int .i64 x.e] 41)) (.cells #[.bool y.neg,.slice Ax1 nx1 cx1,.int .i64 y.e] 41));replace hcall:=hcall _ hb2;cases hq:q x y
    ·rw [hq] at hcall
     have HQ:=Zh hq;clear hq
     go_wp2_with (go_at_fn g;refine hcall.mono ?_;rintro e w' ⟨rfl,hb'⟩)
     go_ret;exact ⟨by rw [zLj q xs ys j x y HX.out HY.out HQ.out];rfl,zAt hb (zAA hb2 hb') (Ya _)⟩
    ·rw [hq] at hcall
     have HQ:=Zh hq;clear hq
     go_wp2_with (go_at_fn g;refine hcall.mono ?_;rintro e w' ⟨rfl,hb'⟩)
     go_roundw
     case rel=>exact ⟨j+1,by omega,by go_num,fun m x' y' hm hx hy=>by
      by_cases hmj:m<j
      ·exact HZ.out m x' y' hmj hx hy
      ·obtain rfl:m=j:=by omega
       rw [HX.out] at hx;rw [HY.out] at hy;injection hx with hx
       injection hy with hy
       rw [<- hx,<- hy];exact HQ.out,zAt hb (zAA hb2 hb') (Ya _)⟩
     case measure=>simp [intOf];omega
   ·go_wp2_with fail
    go_ret;refine ⟨?_,hb⟩;rw [zIb q xs ys (by rw [HL.out,HL'.out]) (fun m x y hx hy=>HZ.out m x y (by
     have:=(Yb.1 hx).1;have:=HL.out;omega) hx hy)]
    rfl
 ·have hne:((n:Int) != (m:Int))=true:=by rw [bne_iff_ne];omega
  go_enter Tryz.func243,Tryz.ntmps243
  go_wp2_with fail
  go_ret;exact ⟨by rw [zGk q xs ys (by rw [HL.out,HL'.out];exact hnm)];rfl,Yp _ _⟩
theorem zKt (q:Iv->Iv->Bool) (g:Nat) (lb:Array Value) (A B:Option Addr) (n c m d:Nat) (xs ys:List Iv) (w:World) (h:Sl 7 RI w A n c xs) (h':Sl 7 RI w B m d ys)
  (eg:∀args W,(callFunc g args).run Tryz.prog W=.ok (.enter g args) W)
  (hp:∀W vs us x y,Below w.heap.size w W->x∈xs->y∈ys->RI W vs x->RI W us y->Calls Tryz.prog g (#[.agg vs.toArray,.agg us.toArray]++lb) W (zBW (q x y) W)) :
  Calls Tryz.prog 21 #[.slice A n c,.slice B m d,.func (.func g) #[] lb] w (zBW (eqF q xs ys) w):=by
 have hn:=h.cap;have hm:=h.max;have hn':=h'.cap;have hm':=h'.max;have HL:=Zh h.len;have HL':=Zh h'.len;have HS:=Zh h;have HS':=Zh h';have HP:=Zh hp;clear h h' hp;by_cases hnm:n=m
 ·subst hnm
  go_enter Tryz.func21,Tryz.ntmps21
  go_wp2_with fail
  go_loopw [17] (fun i wr=>∃j:Nat,j<=n/\i=.int .i64 j/\Hid (∀m x y,m<j->xs[m]? = some x->ys[m]? = some y->q x y=true)/\Below w.heap.size w wr) (fun i _=>n - (intOf i).toNat)
  case atStart=>exact ⟨0,Nat.zero_le _,rfl,fun m x y hm=>absurd hm (by omega),Yp _ _⟩
  case round=>
   obtain ⟨j,hj,rfl,HZ,hb⟩:=hrel;by_cases hlt:j<n
   ·obtain ⟨b,off,x,vs,rfl,hbl,hx,hk,hR,hc⟩:=HS.out.get hlt
    obtain ⟨b',off',y,us,rfl,hbl',hy,hk',hR',hc'⟩:=HS'.out.get hlt;have hRx:=zAX _ _ _ _ hR hb;have hRy:=zAX _ _ _ _ hR' hb;have hcall:=fun W (hW:Below wr.heap.size wr W)=>HP.out W vs us x y (zAt hb hW (Ya _)) (Yk hx) (Yk hy) (zAX _ _ _ _ hRx hW) (zAX _ _ _ _ hRy hW)
    obtain ⟨A1,n1,c1,A2,n2,c2,rfl,hs1,hs2⟩:=hR;obtain ⟨Ax1,nx1,cx1,Ax2,nx2,cx2,rfl,hx1,hx2⟩:=hR';have q0:=(hb.cell (p:=⟨b,off+j*7,none⟩) hbl).trans (hc 0 _ rfl);have q1:=(hb.cell (p:=⟨b,off+j*7+1,none⟩) hbl).trans (hc 1 _ rfl);have q2:=(hb.cell (p:=⟨b,off+j*7+2,none⟩) hbl).trans (hc 2 _ rfl);have q3:=(hb.cell (p:=⟨b,off+j*7+3,none⟩) hbl).trans (hc 3 _ rfl);have q4:=(hb.cell (p:=⟨b,off+j*7+4,none⟩) hbl).trans (hc 4 _ rfl);have q5:=(hb.cell (p:=⟨b,off+j*7+5,none⟩) hbl).trans (hc 5 _ rfl);have q6:=(hb.cell (p:=⟨b,off+j*7+6,none⟩) hbl).trans (hc 6 _ rfl);have r0:=(hb.cell (p:=⟨b',off' + j*7,none⟩) hbl').trans (hc' 0 _ rfl);have r1:=(hb.cell (p:=⟨b',off' + j*7+1,none⟩) hbl').trans (hc' 1 _ rfl);have r2:=(hb.cell (p:=⟨b',off' + j*7+2,none⟩) hbl').trans (hc' 2 _ rfl);have r3:=(hb.cell (p:=⟨b',off' + j*7+3,none⟩) hbl').trans (hc' 3 _ rfl);have r4:=(hb.cell (p:=⟨b',off' + j*7+4,none⟩) hbl').trans (hc' 4 _ rfl);have r5:=(hb.cell (p:=⟨b',off' + j*7+5,none⟩) hbl').trans (hc' 5 _ rfl);have r6:=(hb.cell (p:=⟨b',off' + j*7+6,none⟩) hbl').trans (hc' 6 _ rfl);have hwr:b' < wr.heap.size:=Yh hbl' hb.size;replace r0:=((zAE wr (.cells #[.bool x.lo.neg,.slice A1 n1 c1,.int .i64 x.lo.e,.bool x.hi.neg,.slice A2 n2 c2,.int .i64 x.hi.e,.bool x.all] 43)).cell (p:=⟨b',off' + j*7,none⟩) hwr).trans r0;replace r1:=((zAE wr (.cells #[.bool x.lo.neg,.slice A1 n1 c1,.int .i64 x.lo.e,.bool x.hi.neg,.slice A2 n2 c2,.int .i64 x.hi.e,.bool x.all] 43)).cell (p:=⟨b',off' + j*7+1,none⟩) hwr).trans r1;replace r2:=((zAE wr (.cells #[.bool x.lo.neg,.slice A1 n1 c1,.int .i64 x.lo.e,.bool x.hi.neg,.slice A2 n2 c2,.int .i64 x.hi.e,.bool x.all] 43)).cell (p:=⟨b',off' + j*7+2,none⟩) hwr).trans r2;replace r3:=((zAE wr (.cells #[.bool x.lo.neg,.slice A1 n1 c1,.int .i64 x.lo.e,.bool x.hi.neg,.slice A2 n2 c2,.int .i64 x.hi.e,.bool x.all] 43)).cell (p:=⟨b',off' + j*7+3,none⟩) hwr).trans r3;replace r4:=((zAE wr (.cells #[.bool x.lo.neg,.slice A1 n1 c1,.int .i64 x.lo.e,.bool x.hi.neg,.slice A2 n2 c2,.int .i64 x.hi.e,.bool x.all] 43)).cell (p:=⟨b',off' + j*7+4,none⟩) hwr).trans r4;replace r5:=((zAE wr (.cells #[.bool x.lo.neg,.slice A1 n1 c1,.int .i64 x.lo.e,.bool x.hi.neg,.slice A2 n2 c2,.int .i64 x.hi.e,.bool x.all] 43)).cell (p:=⟨b',off' + j*7+5,none⟩) hwr).trans r5;replace r6:=((zAE wr (.cells #[.bool x.lo.neg,.slice A1 n1 c1,.int .i64 x.lo.e,.bool x.hi.neg,.slice A2 n2 c2,.int .i64 x.hi.e,.bool x.all] 43)).cell (p:=⟨b',off' + j*7+6,none⟩) hwr).trans r6;clear hwr;have HX:=Zh hx;have HY:=Zh hy;clear hx hy hc hc' hk hk' hRx hRy HP HS HS';have hb2:Below wr.heap.size wr ((wr.alloc (.cells #[.bool x.lo.neg,.slice A1 n1 c1,.int .i64 x.lo.e,.bool x.hi.neg,.slice A2 n2 c2,.int .i64 x.hi.e,.bool x.all] 43)).alloc (.cells #[.bool y.lo.neg,.slice Ax1 nx1 cx1,.int .i64 y.lo.e,.bool y.hi.neg,.slice Ax2 nx2 cx2,.int .i64 y.hi.e,.bool y.all] 43)):=zAA (zAE wr (.cells #[.bool x.lo.neg,.slice A1 n1 c1,.int .i64 x.lo.e,.bool x.hi.neg,.slice A2 n2 c2,.int .i64 x.hi.e,.bool x.all] 43)) (zAE (wr.alloc (.cells #[.bool x.lo.neg,.slice A1 n1 c1,.int .i64 x.lo.e,.bool x.hi.neg,.slice A2 n2 c2,.int .i64 x.hi.e,.bool x.all] 43)) (.cells #[.bool y.lo.neg,.slice Ax1 nx1 cx1,.int .i64 y.lo.e,.bool y.hi.neg,.slice Ax2 nx2 cx2,.int .i64 y.hi.e,.bool y.all] 43));replace hcall:=hcall _ hb2;cases hq:q x y
    ·rw [hq] at hcall
     have HQ:=Zh hq;clear hq
     go_wp2_with (go_at_fn g;refine hcall.mono ?_;rintro e w' ⟨rfl,hb'⟩)
     go_ret;exact ⟨by rw [zLj q xs ys j x y HX.out HY.out HQ.out];rfl,zAt hb (zAA hb2 hb') (Ya _)⟩
    ·rw [hq] at hcall
     have HQ:=Zh hq;clear hq
     go_wp2_with (go_at_fn g;refine hcall.mono ?_;rintro e w' ⟨rfl,hb'⟩)
     go_roundw
     case rel=>exact ⟨j+1,by omega,by go_num,fun m x' y' hm hx hy=>by
      by_cases hmj:m<j
      ·exact HZ.out m x' y' hmj hx hy
      ·obtain rfl:m=j:=by omega
       rw [HX.out] at hx;rw [HY.out] at hy;injection hx with hx
       injection hy with hy
       rw [<- hx,<- hy];exact HQ.out,zAt hb (zAA hb2 hb') (Ya _)⟩
     case measure=>simp [intOf];omega
   ·go_wp2_with fail
    go_ret;refine ⟨?_,hb⟩;rw [zIb q xs ys (by rw [HL.out,HL'.out]) (fun m x y hx hy=>HZ.out m x y (by
     have:=(Yb.1 hx).1;have:=HL.out;omega) hx hy)]
    rfl
 ·have hne:((n:Int) != (m:Int))=true:=by rw [bne_iff_ne];omega
  go_enter Tryz.func21,Tryz.ntmps21
  go_wp2_with fail
  go_ret;exact ⟨by rw [zGk q xs ys (by rw [HL.out,HL'.out];exact hnm)];rfl,Yp _ _⟩
theorem zKv (q:(List Dy)->(List Dy)->Bool) (g:Nat) (lb:Array Value) (A B:Option Addr) (n c m d:Nat) (xs ys:List (List Dy)) (w:World) (h:Sl 1 RM w A n c xs) (h':Sl 1 RM w B m d ys)
  (eg:∀args W,(callFunc g args).run Tryz.prog W=.ok (.enter g args) W)
  (hp:∀W vs us x y,Below w.heap.size w W->x∈xs->y∈ys->RM W vs x->RM W us y->Calls Tryz.prog g (#[(vs[0]?).getD undef,(us[0]?).getD undef]++lb) W (zBW (q x y) W)) :
  Calls Tryz.prog 180 #[.slice A n c,.slice B m d,.func (.func g) #[] lb] w (zBW (eqF q xs ys) w):=by
 have hn:=h.cap;have hm:=h.max;have hn':=h'.cap;have hm':=h'.max;have HL:=Zh h.len;have HL':=Zh h'.len;have HS:=Zh h;have HS':=Zh h';have HP:=Zh hp;clear h h' hp;by_cases hnm:n=m
 ·subst hnm
  go_enter Tryz.func180,Tryz.ntmps180
  go_wp2_with fail
  go_loopw [17] (fun i wr=>∃j:Nat,j<=n/\i=.int .i64 j/\Hid (∀m x y,m<j->xs[m]? = some x->ys[m]? = some y->q x y=true)/\Below w.heap.size w wr) (fun i _=>n - (intOf i).toNat)
  case atStart=>exact ⟨0,Nat.zero_le _,rfl,fun m x y hm=>absurd hm (by omega),Yp _ _⟩
  case round=>
   obtain ⟨j,hj,rfl,HZ,hb⟩:=hrel;by_cases hlt:j<n
   ·obtain ⟨b,off,x,vs,rfl,hbl,hx,hk,hR,hc⟩:=HS.out.get hlt
    obtain ⟨b',off',y,us,rfl,hbl',hy,hk',hR',hc'⟩:=HS'.out.get hlt;have hRx:=zAh _ _ _ _ hR hb;have hRy:=zAh _ _ _ _ hR' hb;have hcall:=fun W (hW:Below wr.heap.size wr W)=>HP.out W vs us x y (zAt hb hW (Ya _)) (Yk hx) (Yk hy) (zAh _ _ _ _ hRx hW) (zAh _ _ _ _ hRy hW)
    obtain ⟨A1,n1,c1,rfl,hs1⟩:=hR;obtain ⟨Ax1,nx1,cx1,rfl,hx1⟩:=hR';have qt:=hc 0 _ rfl;rw [Nat.mul_one,Nat.add_zero] at qt;have q0:=(hb.cell (p:=⟨b,off+j,none⟩) hbl).trans qt;have rt:=hc' 0 _ rfl;rw [Nat.mul_one,Nat.add_zero] at rt;have r0:=(hb.cell (p:=⟨b',off' + j,none⟩) hbl').trans rt;have HX:=Zh hx;have HY:=Zh hy;clear hx hy hc hc' hk hk' hRx hRy HP HS HS' qt rt;have hb2:Below wr.heap.size wr wr:=Yp _ _;replace hcall:=hcall _ hb2;cases hq:q x y
    ·rw [hq] at hcall
     have HQ:=Zh hq;clear hq
     go_wp2_with (go_at_fn g;refine hcall.mono ?_;rintro e w' ⟨rfl,hb'⟩)
     go_ret;exact ⟨by rw [zLj q xs ys j x y HX.out HY.out HQ.out];rfl,zAt hb (zAA hb2 hb') (Ya _)⟩
    ·rw [hq] at hcall
     have HQ:=Zh hq;clear hq
     go_wp2_with (go_at_fn g;refine hcall.mono ?_;rintro e w' ⟨rfl,hb'⟩)
     go_roundw
     case rel=>exact ⟨j+1,by omega,by go_num,fun m x' y' hm hx hy=>by
      by_cases hmj:m<j
      ·exact HZ.out m x' y' hmj hx hy
      ·obtain rfl:m=j:=by omega
       rw [HX.out] at hx;rw [HY.out] at hy;injection hx with hx
       injection hy with hy
       rw [<- hx,<- hy];exact HQ.out,zAt hb (zAA hb2 hb') (Ya _)⟩
     case measure=>simp [intOf];omega
   ·go_wp2_with fail
    go_ret;refine ⟨?_,hb⟩;rw [zIb q xs ys (by rw [HL.out,HL'.out]) (fun m x y hx hy=>HZ.out m x y (by
     have:=(Yb.1 hx).1;have:=HL.out;omega) hx hy)]
    rfl
 ·have hne:((n:Int) != (m:Int))=true:=by rw [bne_iff_ne];omega
  go_enter Tryz.func180,Tryz.ntmps180
  go_wp2_with fail
  go_ret;exact ⟨by rw [zGk q xs ys (by rw [HL.out,HL'.out];exact hnm)];rfl,Yp _ _⟩
theorem zKu (q:Lk->Lk->Bool) (g:Nat) (lb:Array Value) (A B:Option Addr) (n c m d:Nat) (xs ys:List Lk) (w:World) (h:Sl 8 RL w A n c xs) (h':Sl 8 RL w B m d ys)
  (eg:∀args W,(callFunc g args).run Tryz.prog W=.ok (.enter g args) W)
  (hp:∀W vs us x y,Below w.heap.size w W->x∈xs->y∈ys->RL W vs x->RL W us y->Calls Tryz.prog g (#[.agg vs.toArray,.agg us.toArray]++lb) W (zBW (q x y) W)) :
  Calls Tryz.prog 106 #[.slice A n c,.slice B m d,.func (.func g) #[] lb] w (zBW (eqF q xs ys) w):=by
 have hn:=h.cap;have hm:=h.max;have hn':=h'.cap;have hm':=h'.max;have HL:=Zh h.len;have HL':=Zh h'.len;have HS:=Zh h;have HS':=Zh h';have HP:=Zh hp;clear h h' hp;by_cases hnm:n=m
 ·subst hnm
  go_enter Tryz.func106,Tryz.ntmps106
  go_wp2_with fail
  go_loopw [17] (fun i wr=>∃j:Nat,j<=n/\i=.int .i64 j/\Hid (∀m x y,m<j->xs[m]? = some x->ys[m]? = some y->q x y=true)/\Below w.heap.size w wr) (fun i _=>n - (intOf i).toNat)
  case atStart=>exact ⟨0,Nat.zero_le _,rfl,fun m x y hm=>absurd hm (by omega),Yp _ _⟩
  case round=>
   obtain ⟨j,hj,rfl,HZ,hb⟩:=hrel;by_cases hlt:j<n
   ·obtain ⟨b,off,x,vs,rfl,hbl,hx,hk,hR,hc⟩:=HS.out.get hlt
    obtain ⟨b',off',y,us,rfl,hbl',hy,hk',hR',hc'⟩:=HS'.out.get hlt;have hRx:=zBt _ _ _ _ hR hb;have hRy:=zBt _ _ _ _ hR' hb;have hcall:=fun W (hW:Below wr.heap.size wr W)=>HP.out W vs us x y (zAt hb hW (Ya _)) (Yk hx) (Yk hy) (zBt _ _ _ _ hRx hW) (zBt _ _ _ _ hRy hW)
    obtain ⟨A1,n1,c1,A2,n2,c2,A3,n3,c3,A4,n4,c4,A5,n5,c5,A6,n6,c6,rfl,hs1,hs2,hs3,hs4,hs5,hs6⟩:=hR;obtain ⟨Ax1,nx1,cx1,Ax2,nx2,cx2,Ax3,nx3,cx3,Ax4,nx4,cx4,Ax5,nx5,cx5,Ax6,nx6,cx6,rfl,hx1,hx2,hx3,hx4,hx5,hx6⟩:=hR';have q0:=(hb.cell (p:=⟨b,off+j*8,none⟩) hbl).trans (hc 0 _ rfl);have q1:=(hb.cell (p:=⟨b,off+j*8+1,none⟩) hbl).trans (hc 1 _ rfl);have q2:=(hb.cell (p:=⟨b,off+j*8+2,none⟩) hbl).trans (hc 2 _ rfl);have q3:=(hb.cell (p:=⟨b,off+j*8+3,none⟩) hbl).trans (hc 3 _ rfl);have q4:=(hb.cell (p:=⟨b,off+j*8+4,none⟩) hbl).trans (hc 4 _ rfl);have q5:=(hb.cell (p:=⟨b,off+j*8+5,none⟩) hbl).trans (hc 5 _ rfl);have q6:=(hb.cell (p:=⟨b,off+j*8+6,none⟩) hbl).trans (hc 6 _ rfl);have q7:=(hb.cell (p:=⟨b,off+j*8+7,none⟩) hbl).trans (hc 7 _ rfl);have r0:=(hb.cell (p:=⟨b',off' + j*8,none⟩) hbl').trans (hc' 0 _ rfl);have r1:=(hb.cell (p:=⟨b',off' + j*8+1,none⟩) hbl').trans (hc' 1 _ rfl);have r2:=(hb.cell (p:=⟨b',off' + j*8+2,none⟩) hbl').trans (hc' 2 _ rfl);have r3:=(hb.cell (p:=⟨b',off' + j*8+3,none⟩) hbl').trans (hc' 3 _ rfl);have r4:=(hb.cell (p:=⟨b',off' + j*8+4,none⟩) hbl').trans (hc' 4 _ rfl);have r5:=(hb.cell (p:=⟨b',off' + j*8+5,none⟩) hbl').trans (hc' 5 _ rfl);have r6:=(hb.cell (p:=⟨b',off' + j*8+6,none⟩) hbl').trans (hc' 6 _ rfl);have r7:=(hb.cell (p:=⟨b',off' + j*8+7,none⟩) hbl').trans (hc' 7 _ rfl);have hwr:b' < wr.heap.size:=Yh hbl' hb.size;replace r0:=((zAE wr (.cells #[.bool x.h.neg,.slice A1 n1 c1,.int .i64 x.h.e,.slice A2 n2 c2,.slice A3 n3 c3,.slice A4 n4 c4,.slice A5 n5 c5,.slice A6 n6 c6] 86)).cell (p:=⟨b',off' + j*8,none⟩) hwr).trans r0;replace r1:=((zAE wr (.cells #[.bool x.h.neg,.slice A1 n1 c1,.int .i64 x.h.e,.slice A2 n2 c2,.slice A3 n3 c3,.slice A4 n4 c4,.slice A5 n5 c5,.slice A6 n6 c6] 86)).cell (p:=⟨b',off' + j*8+1,none⟩) hwr).trans r1;replace r2:=((zAE wr (.cells #[.bool x.h.neg,.slice A1 n1 c1,.int .i64 x.h.e,.slice A2 n2 c2,.slice A3 n3 c3,.slice A4 n4 c4,.slice A5 n5 c5,.slice A6 n6 c6] 86)).cell (p:=⟨b',off' + j*8+2,none⟩) hwr).trans r2;replace r3:=((zAE wr (.cells #[.bool x.h.neg,.slice A1 n1 c1,.int .i64 x.h.e,.slice A2 n2 c2,.slice A3 n3 c3,.slice A4 n4 c4,.slice A5 n5 c5,.slice A6 n6 c6] 86)).cell (p:=⟨b',off' + j*8+3,none⟩) hwr).trans r3;replace r4:=((zAE wr (.cells #[.bool x.h.neg,.slice A1 n1 c1,.int .i64 x.h.e,.slice A2 n2 c2,.slice A3 n3 c3,.slice A4 n4 c4,.slice A5 n5 c5,.slice A6 n6 c6] 86)).cell (p:=⟨b',off' + j*8+4,none⟩) hwr).trans r4;replace r5:=((zAE wr (.cells #[.bool x.h.neg,.slice A1 n1 c1,.int .i64 x.h.e,.slice A2 n2 c2,.slice A3 n3 c3,.slice A4 n4 c4,.slice A5 n5 c5,.slice A6 n6 c6] 86)).cell (p:=⟨b',off' + j*8+5,none⟩) hwr).trans r5;replace r6:=((zAE wr (.cells #[.bool x.h.neg,.slice A1 n1 c1,.int .i64 x.h.e,.slice A2 n2 c2,.slice A3 n3 c3,.slice A4 n4 c4,.slice A5 n5 c5,.slice A6 n6 c6] 86)).cell (p:=⟨b',off' + j*8+6,none⟩) hwr).trans r6;replace r7:=((zAE wr (.cells #[.bool x.h.neg,.slice A1 n1 c1,.int .i64 x.h.e,.slice A2 n2 c2,.slice A3 n3 c3,.slice A4 n4 c4,.slice A5 n5 c5,.slice A6 n6 c6] 86)).cell (p:=⟨b',off' + j*8+7,none⟩) hwr).trans r7;clear hwr;have HX:=Zh hx;have HY:=Zh hy;clear hx hy hc hc' hk hk' hRx hRy HP HS HS';have hb2:Below wr.heap.size wr ((wr.alloc (.cells #[.bool x.h.neg,.slice A1 n1 c1,.int .i64 x.h.e,.slice A2 n2 c2,.slice A3 n3 c3,.slice A4 n4 c4,.slice A5 n5 c5,.slice A6 n6 c6] 86)).alloc (.cells #[.bool y.h.neg,.slice Ax1 nx1 cx1,.int .i64 y.h.e,.slice Ax2 nx2 cx2,.slice Ax3 nx3 cx3,.slice Ax4 nx4 cx4,.slice Ax5 nx5 cx5,.slice Ax6 nx6 cx6] 86)):=zAA (zAE wr (.cells #[.bool x.h.neg,.slice A1 n1 c1,.int .i64 x.h.e,.slice A2 n2 c2,.slice A3 n3 c3,.slice A4 n4 c4,.slice A5 n5 c5,.slice A6 n6 c6] 86)) (zAE (wr.alloc (.cells #[.bool x.h.neg,.slice A1 n1 c1,.int .i64 x.h.e,.slice A2 n2 c2,.slice A3 n3 c3,.slice A4 n4 c4,.slice A5 n5 c5,.slice A6 n6 c6] 86)) (.cells #[.bool y.h.neg,.slice Ax1 nx1 cx1,.int .i64 y.h.e,.slice Ax2 nx2 cx2,.slice Ax3 nx3 cx3,.slice Ax4 nx4 cx4,.slice Ax5 nx5 cx5,.slice Ax6 nx6 cx6] 86));replace hcall:=hcall _ hb2;cases hq:q x y
    ·rw [hq] at hcall
     have HQ:=Zh hq;clear hq
     go_wp2_with (go_at_fn g;refine hcall.mono ?_;rintro e w' ⟨rfl,hb'⟩)
     go_ret;exact ⟨by rw [zLj q xs ys j x y HX.out HY.out HQ.out];rfl,zAt hb (zAA hb2 hb') (Ya _)⟩
    ·rw [hq] at hcall
     have HQ:=Zh hq;clear hq
     go_wp2_with (go_at_fn g;refine hcall.mono ?_;rintro e w' ⟨rfl,hb'⟩)
     go_roundw
     case rel=>exact ⟨j+1,by omega,by go_num,fun m x' y' hm hx hy=>by
      by_cases hmj:m<j
      ·exact HZ.out m x' y' hmj hx hy
      ·obtain rfl:m=j:=by omega
       rw [HX.out] at hx;rw [HY.out] at hy;injection hx with hx
       injection hy with hy
       rw [<- hx,<- hy];exact HQ.out,zAt hb (zAA hb2 hb') (Ya _)⟩
     case measure=>simp [intOf];omega
   ·go_wp2_with fail
    go_ret;refine ⟨?_,hb⟩;rw [zIb q xs ys (by rw [HL.out,HL'.out]) (fun m x y hx hy=>HZ.out m x y (by
     have:=(Yb.1 hx).1;have:=HL.out;omega) hx hy)]
    rfl
 ·have hne:((n:Int) != (m:Int))=true:=by rw [bne_iff_ne];omega
  go_enter Tryz.func106,Tryz.ntmps106
  go_wp2_with fail
  go_ret;exact ⟨by rw [zGk q xs ys (by rw [HL.out,HL'.out];exact hnm)];rfl,Yp _ _⟩
def Bd (d:Dy):Prop:=d.l.length<=1000
def BdI (x:Iv):Prop:=Bd x.lo/\Bd x.hi
structure BdF (f:Fr):Prop where
 c:∀d∈f.c,Bd d
 a:∀l∈f.a,∀d∈l,Bd d
 r:∀x∈f.r,BdI x
structure BdL (x:Lk):Prop where
 h:Bd x.h
 t:∀y∈x.tube,BdI y
 e:BdF x.e
 v:∀l∈x.v,∀d∈l,Bd d
structure BdC (x:Ct):Prop where
 s:BdF x.start
 l:∀y∈x.links,BdL y
def zro (d:Dy):Bool:=!d.neg && decide (d.l=[]) && decide (d.e=0)
def ivV (x:Iv):Bool:=if x.all then zro x.lo && zro x.hi else vld x.lo && vld x.hi && decide (zCH x.lo x.hi<=0)
def zCM (x:Iv) (d:Dy):Bool:=ivV x && vld d && (x.all || (decide (zCH x.lo d<=0) && decide (zCH d x.hi<=0)))
def zEO (b:List Iv):Bool:=decide (1<=b.length) && decide (b.length<=8) && !b.any (fun x=>x.all || !ivV x)
def frV (f:Fr):Bool:=decide (1<=f.c.length) && decide (f.c.length<=8) && decide (f.a.length=f.c.length) && decide (f.r.length=f.c.length) &&
 !f.c.any (fun d=>!vld d) && !f.a.any (fun l=>decide (l.length≠f.c.length) || l.any (fun d=>!vld d)) && !f.r.any (fun x=>x.all || !zCM x zAZ)
section
variable {w:World}{g:Nat}{t:TypeId}
theorem Blk.cells1 {a:Value}(h:Blk w g t #[a]):w.cell? ⟨g,0,none⟩=some a:=h.cell 0
theorem Blk.cells6 {a b c d e f:Value}(h:Blk w g t #[a,b,c,d,e,f]):w.cell? ⟨g,0,none⟩=some a/\w.cell? ⟨g,1,none⟩=some b/\w.cell? ⟨g,2,none⟩=some c/\w.cell? ⟨g,3,none⟩=some d/\w.cell? ⟨g,4,none⟩=some e/\w.cell? ⟨g,5,none⟩=some f:=
 ⟨h.cell 0,h.cell 1,h.cell 2,h.cell 3,h.cell 4,h.cell 5⟩
theorem Blk.cells7 {a b c d e f i:Value}(h:Blk w g t #[a,b,c,d,e,f,i]):w.cell? ⟨g,0,none⟩=some a/\w.cell? ⟨g,1,none⟩=some b/\w.cell? ⟨g,2,none⟩=some c/\w.cell? ⟨g,3,none⟩=some d/\w.cell? ⟨g,4,none⟩=some e/\w.cell? ⟨g,5,none⟩=some f/\w.cell? ⟨g,6,none⟩=some i:=
 ⟨h.cell 0,h.cell 1,h.cell 2,h.cell 3,h.cell 4,h.cell 5,h.cell 6⟩
theorem Blk.cells8 {a b c d e f i j:Value}(h:Blk w g t #[a,b,c,d,e,f,i,j]):w.cell? ⟨g,0,none⟩=some a/\w.cell? ⟨g,1,none⟩=some b/\w.cell? ⟨g,2,none⟩=some c/\w.cell? ⟨g,3,none⟩=some d/\w.cell? ⟨g,4,none⟩=some e/\w.cell? ⟨g,5,none⟩=some f/\w.cell? ⟨g,6,none⟩=some i/\w.cell? ⟨g,7,none⟩=some j:=
 ⟨h.cell 0,h.cell 1,h.cell 2,h.cell 3,h.cell 4,h.cell 5,h.cell 6,h.cell 7⟩
theorem Blk.next {w':World}{cs:Array Value}(h:Blk w g t cs) (hb:Below w.heap.size w w'):Blk w' g t cs:=h.below hb h.lt
end
theorem zEl (vs:List Value) (d:Dy) (w:World) (h:RD w vs d) (hd:Bd d):Calls Tryz.prog 47 #[.agg vs.toArray] w (zBW (vld d) w):=by
 obtain ⟨A,n,c,rfl,hs⟩:=h;have:=hs.len;unfold Bd at hd;exact zA4 d.neg A n c d.l d.e w hs (by omega)
theorem zIW (vs us:List Value) (d d':Dy) (w:World) (h:RD w vs d) (h':RD w us d') (hd:Bd d) (hd':Bd d') :
  Calls Tryz.prog 25 #[.agg vs.toArray,.agg us.toArray] w fun e w'=>e=.returned (.int .i64 (zCH d d'))/\Below w.heap.size w w':=by
 obtain ⟨A,n,c,rfl,hs⟩:=h;obtain ⟨B,m,c',rfl,hs'⟩:=h';have:=hs.len;have:=hs'.len;unfold Bd at hd hd';exact zLb d.neg d'.neg A B n c m c' d.l d'.l d.e d'.e w hs hs' (by omega) (by omega)
theorem zJq (vs:List Value) (d:Dy) (w:World) (h:RD w vs d):Calls Tryz.prog 178 #[.agg vs.toArray] w (zBW (zro d) w):=by
 obtain ⟨A,n,c,rfl,hs⟩:=h;obtain ⟨neg,l,x⟩:=d;dsimp only at hs ⊢;have hl:decide (l=[])=decide (n=0):=Xk.2 ⟨fun e=>by rw [<- hs.len,e];rfl,fun e=>hs.empty e⟩;have HZ:Hid (zro ⟨neg,l,x⟩=(!neg && decide (n=0) && decide (x=0))):=by unfold Hid zro;rw [<- hl]
 have hm:=hs.cap;have hm2:=hs.max;clear hl hs;cases neg
 ·by_cases h0:n=0
  ·subst h0
   by_cases hx:x=0
   ·subst hx
    go_enter Tryz.func178,Tryz.ntmps178
    go_wp2_with fail
    go_ret;exact ⟨by rw [HZ.out];simp,zAE _ _⟩
   ·have hx2:(x == 0)=false:=by simpa using hx
    go_enter Tryz.func178,Tryz.ntmps178
    go_wp2_with fail
    go_ret;exact ⟨by rw [HZ.out];simp [hx],zAE _ _⟩
  ·have hn2:((n:Int) == 0)=false:=by simpa using h0
   go_enter Tryz.func178,Tryz.ntmps178
   go_wp2_with fail
   go_ret;exact ⟨by rw [HZ.out];simp [h0],zAE _ _⟩
 ·go_enter Tryz.func178,Tryz.ntmps178
  go_wp2_with fail
  go_ret;exact ⟨by rw [HZ.out];simp,zAE _ _⟩
theorem zD9 (vs:List Value) (x:Iv) (w:World) (h:RI w vs x) (hx:BdI x):Calls Tryz.prog 102 #[.agg vs.toArray] w (zBW (ivV x) w):=by
 obtain ⟨A,n,c,B,m,d,rfl,h1,h2⟩:=h;obtain ⟨⟨ln,ll,le⟩,⟨un,ul,ue⟩,al⟩:=x;dsimp only at h1 h2 ⊢;have r1:RD w [.bool ln,.slice A n c,.int .i64 le] ⟨ln,ll,le⟩:=⟨A,n,c,rfl,h1⟩;have r2:RD w [.bool un,.slice B m d,.int .i64 ue] ⟨un,ul,ue⟩:=⟨B,m,d,rfl,h2⟩;have hb0:=zAE w (.cells #[.bool ln,.slice A n c,.int .i64 le,.bool un,.slice B m d,.int .i64 ue,.bool al] 43);have k0:=Blk.new w 43 #[.bool ln,.slice A n c,.int .i64 le,.bool un,.slice B m d,.int .i64 ue,.bool al];have H1:=Zh (fun W hb=>zAQ w W _ _ r1 hb);have H2:=Zh (fun W hb=>zAQ w W _ _ r2 hb);have HX:=Zh hx;clear h1 h2 hx r1 r2;cases al
 ·have HV:Hid (ivV ⟨⟨ln,ll,le⟩,⟨un,ul,ue⟩,false⟩=(vld ⟨ln,ll,le⟩ && vld ⟨un,ul,ue⟩ && decide (zCH ⟨ln,ll,le⟩ ⟨un,ul,ue⟩<=0))):=rfl
  go_enter Tryz.func102,Tryz.ntmps102
  go_wp2_with fail
  generalize w.alloc (.cells #[.bool ln,.slice A n c,.int .i64 le,.bool un,.slice B m d,.int .i64 ue,.bool false] 43)=W0 at *;refine (zEl _ _ _ (H1.out _ hb0) HX.out.1).mono ?_;rintro e w1 ⟨rfl,hb1⟩
  replace hb0:=zAA hb0 hb1;replace k0:=k0.next hb1;clear hb1;cases hv1:vld ⟨ln,ll,le⟩
  ·rw [hv1] at HV
   clear hv1;go_wp2_with fail
   go_ret;exact ⟨by rw [HV.out];rfl,hb0⟩
  rw [hv1] at HV;clear hv1;obtain ⟨q0,q1,q2,q3,q4,q5,q6⟩:=k0.cells7;go_wp2_with fail
  refine (zEl _ _ _ (H2.out _ hb0) HX.out.2).mono ?_;rintro e w2 ⟨rfl,hb2⟩
  clear q0 q1 q2 q3 q4 q5 q6;replace hb0:=zAA hb0 hb2;replace k0:=k0.next hb2;clear hb2;cases hv1:vld ⟨un,ul,ue⟩
  ·rw [hv1] at HV
   clear hv1;go_wp2_with fail
   go_ret;exact ⟨by rw [HV.out];rfl,hb0⟩
  rw [hv1] at HV;clear hv1;obtain ⟨q0,q1,q2,q3,q4,q5,q6⟩:=k0.cells7;go_wp2_with fail
  refine (zIW _ _ _ _ _ (H1.out _ hb0) (H2.out _ hb0) HX.out.1 HX.out.2).mono ?_;rintro e w3 ⟨rfl,hb3⟩
  clear q0 q1 q2 q3 q4 q5 q6;replace hb0:=zAA hb0 hb3;clear hb3 k0;generalize zCH ⟨ln,ll,le⟩ ⟨un,ul,ue⟩=r at *;go_wp2_with fail
  go_ret;exact ⟨by rw [HV.out];rfl,hb0⟩
 ·have HV:Hid (ivV ⟨⟨ln,ll,le⟩,⟨un,ul,ue⟩,true⟩=(zro ⟨ln,ll,le⟩ && zro ⟨un,ul,ue⟩)):=rfl
  go_enter Tryz.func102,Tryz.ntmps102
  go_wp2_with fail
  generalize w.alloc (.cells #[.bool ln,.slice A n c,.int .i64 le,.bool un,.slice B m d,.int .i64 ue,.bool true] 43)=W0 at *;refine (zJq _ _ _ (H1.out _ hb0)).mono ?_;rintro e w1 ⟨rfl,hb1⟩
  replace hb0:=zAA hb0 hb1;replace k0:=k0.next hb1;clear hb1;cases hv1:zro ⟨ln,ll,le⟩
  ·rw [hv1] at HV
   clear hv1;go_wp2_with fail
   go_ret;exact ⟨by rw [HV.out];rfl,hb0⟩
  rw [hv1] at HV;clear hv1;obtain ⟨q0,q1,q2,q3,q4,q5,q6⟩:=k0.cells7;go_wp2_with fail
  refine (zJq _ _ _ (H2.out _ hb0)).mono ?_;rintro e w2 ⟨rfl,hb2⟩
  clear q0 q1 q2 q3 q4 q5 q6;replace hb0:=zAA hb0 hb2;clear hb2 k0;generalize zro ⟨un,ul,ue⟩=r at *;go_wp2_with fail
  go_ret;exact ⟨by rw [HV.out];rfl,hb0⟩
def On (E:Nat) (F:Nat->Prop) (w:World) (P:World->Prop):Prop:=∀W:World,E<=W.heap.size->(∀b,F b->W.heap[b]? = w.heap[b]?)->P W
section
variable {E E':Nat}{F F':Nat->Prop}{w w':World}{P Q:World->Prop}
theorem On.here (h:On E F w P) (hE:E<=w.heap.size):P w:=h w hE (fun _ _=>rfl)
theorem On.sub (h:On E F w P) (hE:E<=E') (hF:∀b,F b->F' b):On E' F' w P:=fun W h1 h2=>h W (Yq hE h1) (fun b hb=>h2 b (hF b hb))
theorem On.move (h:On E F w P) (hb:∀b,F b->w'.heap[b]? = w.heap[b]?):On E F w' P:=fun W h1 h2=>h W h1 (fun b hF=>(h2 b hF).trans (hb b hF))
end
structure zFo (E:Nat) (F:Nat->Prop) (w:World) (g:Nat) (xs:List Iv):Prop where
 cells:∃cs:Array Value,Blk w g 43 cs/\∀ (j:Nat) (x:Iv),xs[j]? = some x->∃us:List Value,us.length=7/\(∀ (i:Nat) (v:Value),us[i]? = some v->cs[j*7+i]? = some v)/\On E F w (fun W=>RI W us x)
section
variable {E E':Nat}{F F':Nat->Prop}{w w':World}{g n c:Nat}{xs:List Iv}
theorem zFo.sub (h:zFo E F w g xs) (hE:E<=E') (hF:∀b,F b->F' b):zFo E' F' w g xs:=by
 obtain ⟨cs,hb,hc⟩:=h.cells;refine ⟨cs,hb,fun j x hj=>?_⟩;obtain ⟨us,h1,h2,h3⟩:=hc j x hj;exact ⟨us,h1,h2,h3.sub hE hF⟩
theorem zFo.move (h:zFo E F w g xs) (hg:w'.heap[g]? = w.heap[g]?) (hb:∀b,F b->w'.heap[b]? = w.heap[b]?):zFo E F w' g xs:=by
 obtain ⟨cs,hk,hc⟩:=h.cells;refine ⟨cs,hg.trans hk,fun j x hj=>?_⟩;obtain ⟨us,h1,h2,h3⟩:=hc j x hj;exact ⟨us,h1,h2,h3.move hb⟩
theorem zFo.sl (h:zFo E F w g xs) (hl:xs.length=n) (hc:n<=c) (hm:c<=9223372036854775807) (hE:E<=w.heap.size):Sl 7 RI w (some ⟨g,0,none⟩) n c xs:=by
 obtain ⟨cs,hk,hcs⟩:=h.cells;refine ⟨hl,hc,hm,fun _=>⟨g,0,rfl,hk.lt,fun j x hj=>?_⟩⟩;obtain ⟨us,h1,h2,h3⟩:=hcs j x hj;refine ⟨us,h1,h3.here hE,fun i v hi=>?_⟩;rw [Nat.zero_add,hk.cell];exact h2 i v hi
theorem zFo.lt (h:zFo E F w g xs):g<w.heap.size:=by
 obtain ⟨cs,hk,_⟩:=h.cells;exact hk.lt
end
structure zIN {α:Type}(e:TypeId) (k:Nat) (R:World->List Value->α->Prop) (iB iE:α->Nat) (base:Nat) (w:World) (v:Value) (fs:List (List Value)) (xs:List α):Prop where
 own:zKf e k w base v fs
 len:xs.length=fs.length
 ord:xs.Pairwise (fun x y=>iE x<=iB y)
 each:∀ (j:Nat) (f:List Value) (x:α),fs[j]? = some f->xs[j]? = some x->base<=iB x/\iE x<=w.heap.size/\(∀o,v.ownBlock=some o->o<iB x\/iE x<=o)/\∀W:World,iE x<=W.heap.size->(∀b,iB x<=b->b<iE x->W.heap[b]? = w.heap[b]?)->R W f x
section
variable {α:Type}{e:TypeId}{k:Nat}{R:World->List Value->α->Prop}{iB iE:α->Nat}{base:Nat}{w w':World}{v:Value}{fs:List (List Value)}{xs:List α}
theorem zIN.nil (e:TypeId) (k:Nat) (R:World->List Value->α->Prop) (iB iE:α->Nat) {base:Nat}(w:World):zIN e k R iB iE base w (.slice none 0 0) [] []:=⟨zKf.nil _ _ _ _,rfl,List.Pairwise.nil,fun j f x h=>by simp at h⟩
theorem zIN.keep (h:zIN e k R iB iE base w v fs xs) (hs:w.heap.size<=w'.heap.size) (hb:∀b,base<=b->b<w.heap.size->w'.heap[b]? = w.heap[b]?):zIN e k R iB iE base w' v fs xs:=by
 refine ⟨⟨⟨h.own.own.1,?_⟩,h.own.len⟩,h.len,h.ord,fun j f x hf hx=>?_⟩
 ·rcases h.own.own.2 with hn | ⟨g,cap,cur,hv,hbg,hg,rest⟩
  ·exact .inl hn
  ·exact .inr ⟨g,cap,cur,hv,hbg,(hb g hbg (Yv.1 hg).1).trans hg,rest⟩
 ·obtain ⟨h1,h2,h3,h4⟩:=h.each j f x hf hx
  exact ⟨h1,Yq h2 hs,h3,fun W hW hbl=>h4 W hW (fun b hb1 hb2=>(hbl b hb1 hb2).trans (hb b (Yq h1 hb1) (Yh hb2 h2)))⟩
theorem zIN.below (h:zIN e k R iB iE base w v fs xs) (hb:Below w.heap.size w w'):zIN e k R iB iE base w' v fs xs:=h.keep hb.size (fun b _ h2=>hb.block b h2)
theorem zIN.next (hacc:zIN e k R iB iE base w v fs xs) {v':Value}{f:List Value}{y:α}
  (h2:w'.ownsRow base e k v' (fs.length+1) (fs.flatten++f)) (h3:w.grownBy w' v.ownBlock) (h5:v'.ownBlock=v.ownBlock\/v'.ownBlock=some w.heap.size) (hn:f.length=k)
  (hB:base<=iB y) (hE:iE y<=w.heap.size) (hord:∀x∈xs,iE x<=iB y) (hown:∀o,v.ownBlock=some o->o<iB y\/iE y<=o) (hR:∀W:World,iE y<=W.heap.size->(∀b,iB y<=b->b<iE y->W.heap[b]? = w.heap[b]?)->R W f y) :
  zIN e k R iB iE base w' v' (fs++[f]) (xs++[y]):=by
 have key:∀ (B E:Nat),E<=w.heap.size->(∀o,v.ownBlock=some o->o<B\/E<=o)->(∀o,v'.ownBlock=some o->o<B\/E<=o)/\∀b,B<=b->b<E->w'.heap[b]? = w.heap[b]?:=by
  intro B E hE ho;refine ⟨fun o ho'=>?_,fun b hb1 hb2=>h3.block b (Yh hb2 hE) (fun e=>?_)⟩
  ·rcases h5 with h5 | h5
   ·exact ho o (by rw [<- h5];exact ho')
   ·rw [h5] at ho';injection ho' with ho';right;omega
  ·rcases ho b e.symm with hlt | hge <;> omega
 refine ⟨⟨?_,?_⟩,?_,?_,?_⟩
 ·rw [Yu,List.flatten_append];simpa using h2
 ·intro f' hf
  rcases Yt.1 hf with hf | hf
  ·exact hacc.own.len f' hf
  ·rw [List.mem_singleton.1 hf];exact hn
 ·rw [Yu,Yu,hacc.len];rfl
 ·rw [List.pairwise_append]
  exact ⟨hacc.ord,List.pairwise_singleton _ _,fun x hx z hz=>by rw [List.mem_singleton.1 hz];exact hord x hx⟩
 ·intro j f' x' hf hx'
  by_cases hj:j<fs.length
  ·rw [Yw hj] at hf
   rw [Yw (by rw [hacc.len];exact hj)] at hx';obtain ⟨a1,a2,a3,a4⟩:=hacc.each j f' x' hf hx';obtain ⟨k1,k2⟩:=key _ _ a2 a3;exact ⟨a1,Yq a2 h3.size,k1,fun W hW hbl=>a4 W hW (fun b hb1 hb2=>(hbl b hb1 hb2).trans (k2 b hb1 hb2))⟩
  ·have hj':j<(fs++[f]).length:=(Yb.1 hf).1
   have hj2:j=fs.length:=by simp at hj';omega
   subst hj2;rw [Yx (Ya _),Nat.sub_self] at hf;rw [Yx (by rw [hacc.len];exact Ya _),hacc.len,Nat.sub_self] at hx';simp at hf hx';subst hf hx';obtain ⟨k1,k2⟩:=key _ _ hE hown;exact ⟨hB,Yq hE h3.size,k1,fun W hW hbl=>hR W hW (fun b hb1 hb2=>(hbl b hb1 hb2).trans (k2 b hb1 hb2))⟩
end
section
variable {P:Program}{α:Type}{R:World->List Value->α->Prop}{iB iE:α->Nat}
theorem wpList_accD {w:World}{ops:Array Oper}{rest:List Oper}{o:Oper}{a:Act}{Q:Exit->Act->World->Prop}(hgd:o.guard=none) (s x:Operand) (t:TypeId)
  (ho:o.op=.call { callee:=.builtin .append,args:=#[s,x],argTypes:=#[t,t] })
  (e:TypeId) (k bytes:Nat) (z:Value) (hinfo:(P.info? e).map (fun i=>(i.zero,i.size,i.bytes))=some (some z,k,bytes)) (hz:z.cells.size=k) (hk:0<k) (hby:bytes<=1000) (ht:P.underlying t=some (.slice e))
  (base:Nat) (v:Value) (fs:List (List Value)) (xs:List α) (hs:a.eval s=v) (hacc:zIN e k R iB iE base w v fs xs)
  (ad:Addr) (c:Nat) (f:List Value) (y:α) (hx:a.eval x=.slice (some ad) 1 c) (hn:f.length=k) (hc:∀ (j:Nat) (u:Value),f[j]? = some u->w.cell? (ad.add j)=some u) (h1:∀u∈f,u.oneCell' = true)
  (hlen:fs.length<=1000000) (hbase:base<=w.heap.size)
  (hB:base<=iB y) (hE:iE y<=w.heap.size) (hord:∀x∈xs,iE x<=iB y) (hown:∀o,v.ownBlock=some o->o<iB y\/iE y<=o) (hR:∀W:World,iE y<=W.heap.size->(∀b,iB y<=b->b<iE y->W.heap[b]? = w.heap[b]?)->R W f y)
  (h:∀v' w',zIN e k R iB iE base w' v' (fs++[f]) (xs++[y])->Below base w w'->wpList P ops Q rest (a.put o.dst v') w'):wpList P ops Q (o::rest) a w:=by
 obtain ⟨i,hi,hz',hsize,hb'⟩:=info_parts hinfo;refine wpList_append_own_at _ hgd s x t ho base e i z k bytes ht hi hz' hsize hb' hz hk v fs.length fs.flatten hs hacc.own.own ad 1 c f hx (by omega) hc h1 (by simp only [maxLen];omega) ?_ hbase (fun v' w' h2 h3 _ h5=>?_)
 ·exact Yq (Nat.mul_le_mul (show fs.length+1<=1000001 by omega) hby) (by omega)
 ·exact h v' w' (hacc.next h2 h3 h5 hn hB hE hord hown hR) ((Yp _ _).grown h3 hbase (fun k hk=>(hacc.own.lt k hk).1))
theorem zPJ {w:World}{ops:Array Oper}{o:Oper}{a:Act}{K:Act->World->Prop}{Q:Exit->Act->World->Prop}{E0:Prop}(hgd:o.guard=none) (s x:Operand) (t:TypeId)
  (ho:o.op=.call { callee:=.builtin .append,args:=#[s,x],argTypes:=#[t,t] })
  (e:TypeId) (k bytes:Nat) (z:Value) (hinfo:(P.info? e).map (fun i=>(i.zero,i.size,i.bytes))=some (some z,k,bytes)) (hz:z.cells.size=k) (hk:0<k) (hby:bytes<=1000) (ht:P.underlying t=some (.slice e))
  (base:Nat) (v:Value) (fs:List (List Value)) (xs:List α) (hs:a.eval s=v) (hacc:zIN e k R iB iE base w v fs xs)
  (ad:Addr) (c:Nat) (f:List Value) (y:α) (hx:a.eval x=.slice (some ad) 1 c) (hn:f.length=k) (hc:∀ (j:Nat) (u:Value),f[j]? = some u->w.cell? (ad.add j)=some u) (h1:∀u∈f,u.oneCell' = true)
  (hlen:fs.length<=1000000) (hbase:base<=w.heap.size)
  (hB:base<=iB y) (hE:iE y<=w.heap.size) (hord:∀x∈xs,iE x<=iB y) (hown:∀o,v.ownBlock=some o->o<iB y\/iE y<=o) (hR:∀W:World,iE y<=W.heap.size->(∀b,iB y<=b->b<iE y->W.heap[b]? = w.heap[b]?)->R W f y)
  (h:∀v' w',zIN e k R iB iE base w' v' (fs++[f]) (xs++[y])->Below base w w'->w.grownBy w' v.ownBlock->K (a.put o.dst v') w') :
  if Region.wanted o (yielded ops a.tmps)=true then Oper.wp P o a w K Q else E0:=by
 obtain ⟨i,hi,hz',hsize,hb'⟩:=info_parts hinfo;have hw:Region.wanted o (yielded ops a.tmps)=true:=by simp [Region.wanted,hgd]
 rw [if_pos hw];obtain ⟨v',w',hr,h2,h3,_,h5⟩:=run_append_own_at (P:=P) w base t o.type e i z k bytes ht hi hz' hsize hb' hz hk v fs.length fs.flatten hacc.own.own ad 1 c f (by omega) hc h1 (by simp only [maxLen];omega) (Yq (Nat.mul_le_mul (show fs.length+1<=1000001 by omega) hby) (by omega)) hbase;unfold Oper.wp execOp;simp only [ho,resolve,invoke,builtin,Sem.run_bind,Sem.run_pure,Result.andThen_ok,List.map_toArray,List.map_cons,List.map_nil,hs,hx,hr];exact h v' w' (hacc.next h2 h3 h5 hn hB hE hord hown hR) ((Yp _ _).grown h3 hbase (fun k hk=>(hacc.own.lt k hk).1)) h3
end
theorem Acc.row {lo base:Nat}{w:World}{v:Value}{fs:List (List Value)}{xs:List Iv}(h:Acc 43 7 RI lo base w v fs xs) (h0:0<xs.length) :
  ∃g c,v=.slice (some ⟨g,0,none⟩) xs.length c/\lo<=g/\xs.length<=c/\c<=9223372036854775807/\zFo w.heap.size (fun b=>lo<=b/\b<w.heap.size/\b≠g) w g xs:=by
 have hle:=h.le;rcases h.own.own.2 with ⟨e1,e2⟩ | ⟨g,cap,cur,e1,hbg,hg,h1,h2,h3,h4⟩
 ·have:=h.len;omega
 ·refine ⟨g,cap,by rw [e1,h.len],by omega,by have:=h.len;omega,by simpa [maxLen] using h2,⟨cur,hg,fun j x hj=>?_⟩⟩
  have hjl:j<fs.length:=by have:=(Yb.1 hj).1;have:=h.len;omega
  have hf:fs[j]? = some fs[j]:=Yo hjl;refine ⟨fs[j],h.own.len _ (List.getElem_mem hjl),fun i v hi=>?_,?_⟩
  ·have h5:=zEb h.own.len j i _ v hf hi
   have hlt:j*7+i<fs.length*7:=by
    have:=(Yb.1 h5).1;rw [zGp h.own.len] at this;exact this
   rw [<- h4,Xf hlt] at h5
   simpa using h5
  ·obtain ⟨B,E,a1,a2,a3,a4⟩:=h.each j _ x hf hj
   intro W hW hb;refine a4 W (by omega) (fun b hb1 hb2=>hb b ⟨by omega,by omega,?_⟩);have:=a3 g (by rw [e1];rfl);omega
structure LkM (E:Nat) (F:Nat->Prop) (w:World) (T R:Nat) (vs:List Value) (x:Lk):Prop where
 ne:T≠R
 nT:¬ F T
 nR:¬ F R
 cells:∃H hn hc tn tc A n c B m d p q V vn vc,vs=[.bool x.h.neg,.slice H hn hc,.int .i64 x.h.e,.slice (some ⟨T,0,none⟩) tn tc,.slice A n c,.slice B m d,.slice (some ⟨R,0,none⟩) p q,.slice V vn vc]/\
  On E F w (fun W=>SL W H hn hc x.h.l/\Sl 3 RD W A n c x.e.c/\Sl 1 RM W B m d x.e.a/\Sl 1 RM W V vn vc x.v)/\
  (x.tube.length=tn/\tn<=tc/\tc<=9223372036854775807)/\(x.e.r.length=p/\p<=q/\q<=9223372036854775807)/\zFo E F w T x.tube/\zFo E F w R x.e.r
section
variable {E E':Nat}{F F':Nat->Prop}{w w':World}{T R:Nat}{vs:List Value}{x:Lk}
theorem LkM.sub (h:LkM E F w T R vs x) (hE:E<=E') (hF:∀b,F b->F' b) (h1:¬ F' T) (h2:¬ F' R):LkM E' F' w T R vs x:=by
 obtain ⟨H,hn,hc,tn,tc,A,n,c,B,m,d,p,q,V,vn,vc,e,a1,a2,a3,a4,a5⟩:=h.cells;exact ⟨h.ne,h1,h2,H,hn,hc,tn,tc,A,n,c,B,m,d,p,q,V,vn,vc,e,a1.sub hE hF,a2,a3,a4.sub hE hF,a5.sub hE hF⟩
theorem LkM.move (h:LkM E F w T R vs x) (hT:w'.heap[T]? = w.heap[T]?) (hR:w'.heap[R]? = w.heap[R]?) (hb:∀b,F b->w'.heap[b]? = w.heap[b]?):LkM E F w' T R vs x:=by
 obtain ⟨H,hn,hc,tn,tc,A,n,c,B,m,d,p,q,V,vn,vc,e,a1,a2,a3,a4,a5⟩:=h.cells;exact ⟨h.ne,h.nT,h.nR,H,hn,hc,tn,tc,A,n,c,B,m,d,p,q,V,vn,vc,e,a1.move hb,a2,a3,a4.move hT hb,a5.move hR hb⟩
theorem LkM.rl (h:LkM E F w T R vs x) (hE:E<=w.heap.size):RL w vs x:=by
 obtain ⟨H,hn,hc,tn,tc,A,n,c,B,m,d,p,q,V,vn,vc,e,a1,a2,a3,a4,a5⟩:=h.cells;obtain ⟨b1,b2,b3,b4⟩:=a1.here hE;exact ⟨H,hn,hc,_,tn,tc,A,n,c,B,m,d,_,p,q,V,vn,vc,e,b1,a4.sl a2.1 a2.2.1 a2.2.2 hE,b2,b3,a5.sl a3.1 a3.2.1 a3.2.2 hE,b4⟩
end
def zDc (w:World) (M:List Nat) (b:Nat):Prop:=b<w.heap.size/\b ∉ M
structure zHU (w:World) (L:Option Addr) (n c:Nat) (M Ts Rs:List Nat) (xs:List Lk):Prop where
 len:xs.length=n
 cap:n<=c
 max:c<=9223372036854775807
 lT:Ts.length=n
 lR:Rs.length=n
 nd:(Ts++Rs).Nodup
 sub:∀b∈Ts++Rs,b∈M
 at_:0<n->∃g cs,L=some ⟨g,0,none⟩/\Blk w g 86 cs/\g ∉ M/\∀ (j:Nat) (x:Lk),xs[j]? = some x->∃vs T R,vs.length=8/\Ts[j]? = some T/\Rs[j]? = some R/\(∀ (i:Nat) (v:Value),vs[i]? = some v->cs[j*8+i]? = some v)/\LkM w.heap.size (zDc w M) w T R vs x
section
variable {w w':World}{L:Option Addr}{n c:Nat}{M Ts Rs:List Nat}{xs:List Lk}
theorem zHU.sl (h:zHU w L n c M Ts Rs xs):Sl 8 RL w L n c xs:=by
 refine ⟨h.len,h.cap,h.max,fun hn=>?_⟩;obtain ⟨g,cs,e,hk,_,hc⟩:=h.at_ hn;refine ⟨g,0,e,hk.lt,fun j x hj=>?_⟩;obtain ⟨vs,T,R,h1,_,_,h2,h3⟩:=hc j x hj;refine ⟨vs,h1,h3.rl (Ya _),fun i v hi=>?_⟩;rw [Nat.zero_add,hk.cell];exact h2 i v hi
theorem zHU.keep (h:zHU w L n c M Ts Rs xs) (hs:w.heap.size<=w'.heap.size) (hb:∀b,b<w.heap.size->(b ∉ M\/b∈Ts++Rs)->w'.heap[b]? = w.heap[b]?):zHU w' L n c M Ts Rs xs:=by
 refine ⟨h.len,h.cap,h.max,h.lT,h.lR,h.nd,h.sub,fun hn=>?_⟩;obtain ⟨g,cs,e,hk,hg,hc⟩:=h.at_ hn;refine ⟨g,cs,e,(hb g hk.lt (.inl hg)).trans hk,hg,fun j x hj=>?_⟩;obtain ⟨vs,T,R,h1,hT,hR,h2,h3⟩:=hc j x hj;refine ⟨vs,T,R,h1,hT,hR,h2,?_⟩;have hTl:T<w.heap.size/\R<w.heap.size:=by
  obtain ⟨_,_,_,_,_,_,_,_,_,_,_,_,_,_,_,_,_,_,_,_,a4,a5⟩:=h3.cells;exact ⟨a4.lt,a5.lt⟩
 have mT:T∈Ts++Rs:=Yt.2 (.inl (Yk hT));have mR:R∈Ts++Rs:=Yt.2 (.inr (Yk hR));exact (h3.move (hb T hTl.1 (.inr mT)) (hb R hTl.2 (.inr mR)) (fun b hF=>hb b hF.1 (.inl hF.2))).sub hs (fun b hF=>⟨Yh hF.1 hs,hF.2⟩) (fun hF=>hF.2 (h.sub _ mT)) (fun hF=>hF.2 (h.sub _ mR))
theorem zHU.lt (h:zHU w L n c M Ts Rs xs):∀b∈Ts++Rs,b<w.heap.size:=by
 have hn:∀j,j<n->∃T R,Ts[j]? = some T/\Rs[j]? = some R/\T<w.heap.size/\R<w.heap.size:=by
  intro j hj;obtain ⟨g,cs,_,_,_,hc⟩:=h.at_ (by omega);have hjl:j<xs.length:=by rw [h.len];exact hj
  obtain ⟨vs,T,R,_,hT,hR,_,hm⟩:=hc j _ (Yo hjl);obtain ⟨_,_,_,_,_,_,_,_,_,_,_,_,_,_,_,_,_,_,_,_,a4,a5⟩:=hm.cells;exact ⟨T,R,hT,hR,a4.lt,a5.lt⟩
 intro b hb;rcases Yt.1 hb with hb | hb
 ·obtain ⟨j,hj⟩:=List.mem_iff_getElem?.1 hb
  have hjn:j<n:=by have:=(Yb.1 hj).1;rw [h.lT] at this;exact this
  obtain ⟨T,R,hT,_,h1,_⟩:=hn j hjn;rw [hj] at hT;injection hT with hT
  subst hT;exact h1
 ·obtain ⟨j,hj⟩:=List.mem_iff_getElem?.1 hb
  have hjn:j<n:=by have:=(Yb.1 hj).1;rw [h.lR] at this;exact this
  obtain ⟨T,R,_,hR,_,h1⟩:=hn j hjn;rw [hj] at hR;injection hR with hR
  subst hR;exact h1
end
structure LkB where
 x:Lk
 B:Nat
 E:Nat
 T:Nat
 R:Nat
def LkB.F (p:LkB) (b:Nat):Prop:=p.B<=b/\b<p.E/\b≠p.T/\b≠p.R
def RB (W:World) (vs:List Value) (p:LkB):Prop:=vs.length=8/\p.B<=p.T/\p.T<p.E/\p.B<=p.R/\p.R<p.E/\LkM p.E p.F W p.T p.R vs p.x
theorem zRZ {base lo:Nat}{w:World}{v:Value}{fs:List (List Value)}{ps:List LkB}(h:zIN 86 8 RB LkB.B LkB.E base w v fs ps) (hlo:lo<=base) :
  ∃L c,v=.slice L ps.length c/\zHU w L ps.length c (List.range lo++(ps.map LkB.T++ps.map LkB.R)) (ps.map LkB.T) (ps.map LkB.R) (ps.map LkB.x)/\∀b,b<base->b ∉ ps.map LkB.T++ps.map LkB.R:=by
 have hin:∀p∈ps,base<=p.B/\p.B<=p.T/\p.T<p.E/\p.B<=p.R/\p.R<p.E/\p.T≠p.R/\p.E<=w.heap.size/\(∀o,v.ownBlock=some o->o<p.B\/p.E<=o):=by
  intro p hp;obtain ⟨j,hj⟩:=List.mem_iff_getElem?.1 hp;have hjl:j<fs.length:=by have:=(Yb.1 hj).1;have:=h.len;omega
  obtain ⟨a1,a2,a3,a4⟩:=h.each j _ p (Yo hjl) hj;obtain ⟨_,b1,b2,b3,b4,b5⟩:=a4 w a2 (fun _ _ _=>rfl);exact ⟨a1,b1,b2,b3,b4,b5.ne,a2,a3⟩
 have hord:∀ (i j:Nat) (p q:LkB),i<j->ps[i]? = some p->ps[j]? = some q->p.E<=q.B:=by
  intro i j p q hij hp hq;obtain ⟨hi,e1⟩:=Yb.1 hp;obtain ⟨hj,e2⟩:=Yb.1 hq;rw [<- e1,<- e2];exact (List.pairwise_iff_getElem.1 h.ord) i j hi hj hij
 have nd:(ps.map LkB.T++ps.map LkB.R).Nodup:=by
  rw [List.nodup_append];refine ⟨?_,?_,?_⟩
  ·rw [List.Nodup,List.pairwise_map]
   exact h.ord.imp_of_mem (fun {p q} hp hq hpq=>by have:=hin p hp;have:=hin q hq;omega)
  ·rw [List.Nodup,List.pairwise_map]
   exact h.ord.imp_of_mem (fun {p q} hp hq hpq=>by have:=hin p hp;have:=hin q hq;omega)
  ·intro a ha b hb
   obtain ⟨p,hp,rfl⟩:=List.mem_map.1 ha;obtain ⟨q,hq,rfl⟩:=List.mem_map.1 hb;have i1:=hin p hp;have i2:=hin q hq;obtain ⟨i,hi⟩:=List.mem_iff_getElem?.1 hp;obtain ⟨j,hj⟩:=List.mem_iff_getElem?.1 hq;rcases Nat.lt_trichotomy i j with hij | hij | hij
   ·have:=hord i j p q hij hi hj;omega
   ·subst hij
    rw [hi] at hj;injection hj with hj
    subst hj;exact i1.2.2.2.2.2.1
   ·have:=hord j i q p hij hj hi;omega
 have hold:∀b,b<base->b ∉ ps.map LkB.T++ps.map LkB.R:=by
  intro b hb hm;rcases Yt.1 hm with hm | hm
  ·obtain ⟨p,hp,rfl⟩:=List.mem_map.1 hm
   have:=hin p hp;omega
  ·obtain ⟨p,hp,rfl⟩:=List.mem_map.1 hm
   have:=hin p hp;omega
 rcases h.own.own.2 with ⟨e1,e2⟩ | ⟨g,cap,cur,e1,hbg,hg,h1,h2,h3,h4⟩
 ·have hn:ps=[]:=List.eq_nil_of_length_eq_zero (by rw [h.len];exact e2)
  subst hn;exact ⟨none,0,by rw [e1];rfl,⟨rfl,by simp,by omega,rfl,rfl,nd,fun b hb=>Yt.2 (.inr hb),fun h=>absurd h (by simp)⟩,hold⟩
 ·refine ⟨some ⟨g,0,none⟩,cap,by rw [e1,h.len],⟨by simp,by rw [h.len];exact h1,by simpa [maxLen] using h2,by simp,by simp,nd,fun b hb=>Yt.2 (.inr hb),fun _=>⟨g,cur,rfl,hg,?_,fun j x hj=>?_⟩⟩,hold⟩
  ·intro hm
   rcases Yt.1 hm with hm | hm
   ·have:=List.mem_range.1 hm
    omega
   rcases Yt.1 hm with hm | hm
   ·obtain ⟨p,hp,hpg⟩:=List.mem_map.1 hm
    have i1:=hin p hp;have:=i1.2.2.2.2.2.2.2 g (by rw [e1];rfl);omega
   ·obtain ⟨p,hp,hpg⟩:=List.mem_map.1 hm
    have i1:=hin p hp;have:=i1.2.2.2.2.2.2.2 g (by rw [e1];rfl);omega
  ·rw [List.getElem?_map] at hj
   obtain ⟨p,hp,rfl⟩:=Option.map_eq_some_iff.1 hj;have hjl:j<fs.length:=by have:=(Yb.1 hp).1;have:=h.len;omega
   have hf:fs[j]? = some fs[j]:=Yo hjl;obtain ⟨a1,a2,a3,a4⟩:=h.each j _ p hf hp;obtain ⟨b0,b1,b2,b3,b4,b5⟩:=a4 w a2 (fun _ _ _=>rfl);refine ⟨fs[j],p.T,p.R,b0,by rw [List.getElem?_map,hp];rfl,by rw [List.getElem?_map,hp];rfl,fun i v hi=>?_,?_⟩
   ·have h5:=zEb h.own.len j i _ v hf hi
    have hlt:j*8+i<fs.length*8:=by
     have:=(Yb.1 h5).1;rw [zGp h.own.len] at this;exact this
    rw [<- h4,Xf hlt] at h5
    simpa using h5
   ·have mT:p.T∈List.range lo++(ps.map LkB.T++ps.map LkB.R):=Yt.2 (.inr (Yt.2 (.inl (List.mem_map.2 ⟨p,Yk hp,rfl⟩))))
    have mR:p.R∈List.range lo++(ps.map LkB.T++ps.map LkB.R):=Yt.2 (.inr (Yt.2 (.inr (List.mem_map.2 ⟨p,Yk hp,rfl⟩))));refine b5.sub a2 (fun b hb=>⟨by have:=hb.2.1;omega,fun hm=>?_⟩) (fun hF=>hF.2 mT) (fun hF=>hF.2 mR);obtain ⟨c1,c2,c3,c4⟩:=hb;rcases Yt.1 hm with hm | hm
    ·have:=List.mem_range.1 hm
     omega
    rcases Yt.1 hm with hm | hm
    ·obtain ⟨q,hq,rfl⟩:=List.mem_map.1 hm
     have i2:=hin q hq;obtain ⟨i,hi⟩:=List.mem_iff_getElem?.1 hq;rcases Nat.lt_trichotomy i j with hij | hij | hij
     ·have:=hord i j q p hij hi hp;omega
     ·subst hij
      rw [hi] at hp;injection hp with hp
      subst hp;exact c3 rfl
     ·have:=hord j i p q hij hp hi;omega
    ·obtain ⟨q,hq,rfl⟩:=List.mem_map.1 hm
     have i2:=hin q hq;obtain ⟨i,hi⟩:=List.mem_iff_getElem?.1 hq;rcases Nat.lt_trichotomy i j with hij | hij | hij
     ·have:=hord i j q p hij hi hp;omega
     ·subst hij
      rw [hi] at hp;injection hp with hp
      subst hp;exact c4 rfl
     ·have:=hord j i p q hij hp hi;omega
structure CtM (w:World) (M Ts Rs:List Nat) (vs:List Value) (x:Ct):Prop where
 cells:∃A n c B m d C p q L ln lc,vs=[.int .i64 x.prec,.int .i64 x.order,.slice A n c,.slice B m d,.slice C p q,.slice L ln lc]/\
  On w.heap.size (zDc w M) w (fun W=>Sl 3 RD W A n c x.start.c/\Sl 1 RM W B m d x.start.a/\Sl 7 RI W C p q x.start.r)/\zHU w L ln lc M Ts Rs x.links
theorem zCQ {f:FuncId}{fn:Func}{c:Code}(hf:Tryz.prog.funcs[f]? = some fn) (hname:(fn.name == "runtime.NumGoroutine")=false) (hb:fn.body=some c):∀ (args:Array Value) (w:World),(callFunc f args).run Tryz.prog w=.ok (.enter f args) w:=enters_of hf hname hb
theorem zQB (vs us:List Value) (x:Iv) (d:Dy) (w:World) (h:RI w vs x) (h':RD w us d) (hx:BdI x) (hd:Bd d):Calls Tryz.prog 98 #[.agg vs.toArray,.agg us.toArray] w (zBW (zCM x d) w):=by
 obtain ⟨A,n,c,B,m,b,rfl,h1,h2⟩:=h;obtain ⟨⟨ln,ll,le⟩,⟨un,ul,ue⟩,al⟩:=x;dsimp only at h1 h2 ⊢;have rI:RI w [.bool ln,.slice A n c,.int .i64 le,.bool un,.slice B m b,.int .i64 ue,.bool al] ⟨⟨ln,ll,le⟩,⟨un,ul,ue⟩,al⟩:=⟨A,n,c,B,m,b,rfl,h1,h2⟩;have r1:RD w [.bool ln,.slice A n c,.int .i64 le] ⟨ln,ll,le⟩:=⟨A,n,c,rfl,h1⟩;have r2:RD w [.bool un,.slice B m b,.int .i64 ue] ⟨un,ul,ue⟩:=⟨B,m,b,rfl,h2⟩;have HI:=Zh (fun W hb=>zAX w W _ _ rI hb);have H1:=Zh (fun W hb=>zAQ w W _ _ r1 hb);have H2:=Zh (fun W hb=>zAQ w W _ _ r2 hb);have HX:=Zh hx;clear h1 h2 hx r1 r2 rI;obtain ⟨C,p,q,rfl,h3⟩:=h';obtain ⟨dn,dl,de⟩:=d;dsimp only at h3 ⊢;have r3:RD w [.bool dn,.slice C p q,.int .i64 de] ⟨dn,dl,de⟩:=⟨C,p,q,rfl,h3⟩;have H3:=Zh (fun W hb=>zAQ w W _ _ r3 hb);have HD:=Zh hd;clear h3 r3 hd;have HV:Hid (zCM ⟨⟨ln,ll,le⟩,⟨un,ul,ue⟩,al⟩ ⟨dn,dl,de⟩=(ivV ⟨⟨ln,ll,le⟩,⟨un,ul,ue⟩,al⟩ && vld ⟨dn,dl,de⟩ && (al || (decide (zCH ⟨ln,ll,le⟩ ⟨dn,dl,de⟩<=0) && decide (zCH ⟨dn,dl,de⟩ ⟨un,ul,ue⟩<=0))))):=rfl;have hb0:=zAA (zAE w (.cells #[.bool ln,.slice A n c,.int .i64 le,.bool un,.slice B m b,.int .i64 ue,.bool al] 43)) (zAE (w.alloc (.cells #[.bool ln,.slice A n c,.int .i64 le,.bool un,.slice B m b,.int .i64 ue,.bool al] 43)) (.cells #[.bool dn,.slice C p q,.int .i64 de] 41));have k0:=(Blk.new w 43 #[.bool ln,.slice A n c,.int .i64 le,.bool un,.slice B m b,.int .i64 ue,.bool al]).next (zAE (w.alloc (.cells #[.bool ln,.slice A n c,.int .i64 le,.bool un,.slice B m b,.int .i64 ue,.bool al] 43)) (.cells #[.bool dn,.slice C p q,.int .i64 de] 41));have k1:Blk ((w.alloc (.cells #[.bool ln,.slice A n c,.int .i64 le,.bool un,.slice B m b,.int .i64 ue,.bool al] 43)).alloc (.cells #[.bool dn,.slice C p q,.int .i64 de] 41)) (w.heap.size+1) 41 #[.bool dn,.slice C p q,.int .i64 de]:=Blk.newAt _ _ _ (by simp);go_enter Tryz.func98,Tryz.ntmps98
 go_wp2_with fail
 generalize (w.alloc (.cells #[.bool ln,.slice A n c,.int .i64 le,.bool un,.slice B m b,.int .i64 ue,.bool al] 43)).alloc (.cells #[.bool dn,.slice C p q,.int .i64 de] 41)=W0 at *;refine (zD9 _ _ _ (HI.out _ hb0) HX.out).mono ?_;rintro e w1 ⟨rfl,hb1x⟩
 replace hb0:=zAA hb0 hb1x;replace k0:=k0.next hb1x;replace k1:=k1.next hb1x;clear hb1x;cases hv1:ivV ⟨⟨ln,ll,le⟩,⟨un,ul,ue⟩,al⟩
 ·rw [hv1] at HV
  clear hv1;go_wp2_with fail
  go_ret;exact ⟨by rw [HV.out];rfl,hb0⟩
 rw [hv1] at HV;clear hv1;obtain ⟨k0q0,k0q1,k0q2,k0q3,k0q4,k0q5,k0q6⟩:=k0.cells7;obtain ⟨k1q0,k1q1,k1q2⟩:=k1.cells3;go_wp2_with fail
 refine (zEl _ _ _ (H3.out _ hb0) HD.out).mono ?_;rintro e w2 ⟨rfl,hb2x⟩
 clear k0q0 k0q1 k0q2 k0q3 k0q4 k0q5 k0q6 k1q0 k1q1 k1q2;replace hb0:=zAA hb0 hb2x;replace k0:=k0.next hb2x;replace k1:=k1.next hb2x;clear hb2x;cases hv1:vld ⟨dn,dl,de⟩
 ·rw [hv1] at HV
  clear hv1;go_wp2_with fail
  go_ret;exact ⟨by rw [HV.out];rfl,hb0⟩
 rw [hv1] at HV;clear hv1;cases al
 ·obtain ⟨k0q0,k0q1,k0q2,k0q3,k0q4,k0q5,k0q6⟩:=k0.cells7
  obtain ⟨k1q0,k1q1,k1q2⟩:=k1.cells3;go_wp2_with fail
  refine (zIW _ _ _ _ _ (H1.out _ hb0) (H3.out _ hb0) HX.out.1 HD.out).mono ?_;rintro e w3 ⟨rfl,hb3x⟩
  clear k0q0 k0q1 k0q2 k0q3 k0q4 k0q5 k0q6 k1q0 k1q1 k1q2;replace hb0:=zAA hb0 hb3x;replace k0:=k0.next hb3x;replace k1:=k1.next hb3x;clear hb3x;generalize zCH ⟨ln,ll,le⟩ ⟨dn,dl,de⟩=r1 at *;cases hv1:decide (r1<=0)
  ·rw [hv1] at HV
   go_wp2_with fail
   go_ret;exact ⟨by rw [HV.out];rfl,hb0⟩
  rw [hv1] at HV;obtain ⟨k0q0,k0q1,k0q2,k0q3,k0q4,k0q5,k0q6⟩:=k0.cells7;obtain ⟨k1q0,k1q1,k1q2⟩:=k1.cells3;go_wp2_with fail
  refine (zIW _ _ _ _ _ (H3.out _ hb0) (H2.out _ hb0) HD.out HX.out.2).mono ?_;rintro e w4 ⟨rfl,hb4x⟩
  clear k0q0 k0q1 k0q2 k0q3 k0q4 k0q5 k0q6 k1q0 k1q1 k1q2;replace hb0:=zAA hb0 hb4x;replace k0:=k0.next hb4x;replace k1:=k1.next hb4x;clear hb4x;generalize zCH ⟨dn,dl,de⟩ ⟨un,ul,ue⟩=r2 at *;go_wp2_with fail
  go_ret;exact ⟨by rw [HV.out];rfl,hb0⟩
 ·obtain ⟨k0q0,k0q1,k0q2,k0q3,k0q4,k0q5,k0q6⟩:=k0.cells7
  obtain ⟨k1q0,k1q1,k1q2⟩:=k1.cells3;go_wp2_with fail
  go_ret;exact ⟨by rw [HV.out];rfl,hb0⟩
theorem zIS (vs:List Value) (x:Iv) (w:World) (h:RI w vs x) (hx:BdI x):Calls Tryz.prog 101 (#[.agg vs.toArray]++#[]) w (zBW (x.all || !ivV x) w):=by
 rw [Array.append_empty];obtain ⟨A,n,c,B,m,b,rfl,h1,h2⟩:=h;obtain ⟨⟨ln,ll,le⟩,⟨un,ul,ue⟩,al⟩:=x;dsimp only at h1 h2 ⊢;have rI:RI w [.bool ln,.slice A n c,.int .i64 le,.bool un,.slice B m b,.int .i64 ue,.bool al] ⟨⟨ln,ll,le⟩,⟨un,ul,ue⟩,al⟩:=⟨A,n,c,B,m,b,rfl,h1,h2⟩;have r1:RD w [.bool ln,.slice A n c,.int .i64 le] ⟨ln,ll,le⟩:=⟨A,n,c,rfl,h1⟩;have r2:RD w [.bool un,.slice B m b,.int .i64 ue] ⟨un,ul,ue⟩:=⟨B,m,b,rfl,h2⟩;have HI:=Zh (fun W hb=>zAX w W _ _ rI hb);have H1:=Zh (fun W hb=>zAQ w W _ _ r1 hb);have H2:=Zh (fun W hb=>zAQ w W _ _ r2 hb);have HX:=Zh hx;clear h1 h2 hx r1 r2 rI;have hb0:=zAE w (.cells #[.bool ln,.slice A n c,.int .i64 le,.bool un,.slice B m b,.int .i64 ue,.bool al] 43);have k0:=Blk.new w 43 #[.bool ln,.slice A n c,.int .i64 le,.bool un,.slice B m b,.int .i64 ue,.bool al];cases al
 ·have HV:Hid ((false || !ivV ⟨⟨ln,ll,le⟩,⟨un,ul,ue⟩,false⟩) = !ivV ⟨⟨ln,ll,le⟩,⟨un,ul,ue⟩,false⟩):=rfl
  go_enter Tryz.func101,Tryz.ntmps101
  go_wp2_with fail
  generalize w.alloc (.cells #[.bool ln,.slice A n c,.int .i64 le,.bool un,.slice B m b,.int .i64 ue,.bool false] 43)=W0 at *;refine (zD9 _ _ _ (HI.out _ hb0) HX.out).mono ?_;rintro e w1 ⟨rfl,hb1x⟩
  replace hb0:=zAA hb0 hb1x;replace k0:=k0.next hb1x;clear hb1x;generalize ivV ⟨⟨ln,ll,le⟩,⟨un,ul,ue⟩,false⟩=r at *;go_wp2_with fail
  go_ret;exact ⟨by rw [HV.out];rfl,hb0⟩
 ·have HV:Hid ((true || !ivV ⟨⟨ln,ll,le⟩,⟨un,ul,ue⟩,true⟩)=true):=rfl
  go_enter Tryz.func101,Tryz.ntmps101
  go_wp2_with fail
  go_ret;exact ⟨by rfl,hb0⟩
theorem zDh (A:Option Addr) (n c:Nat) (b:List Iv) (w:World) (h:Sl 7 RI w A n c b) (hx:∀x∈b,BdI x):Calls Tryz.prog 49 #[.slice A n c] w (zBW (zEO b) w):=by
 have HV:Hid (zEO b=(decide (1<=n) && decide (n<=8) && !b.any (fun x=>x.all || !ivV x))):=by unfold Hid zEO;rw [h.len]
 have HC:=Zh (zCv (fun x=>x.all || !ivV x) 101 #[] A n c b w h (zCQ Tryz.func101 (by kernel_rfl) rfl) (fun W vs x _ hm hr=>zIS vs x W hr (hx x hm)));have hm:=h.cap;have hm2:=h.max;clear h hx;by_cases h1:1<=n
 ·by_cases h8:n<=8
  ·go_enter Tryz.func49,Tryz.ntmps49
   go_wp2_with fail
   refine HC.out.mono ?_;rintro e w1 ⟨rfl,hb0⟩
   generalize b.any (fun x=>x.all || !ivV x)=r at *;go_wp2_with fail
   go_ret;exact ⟨by rw [HV.out,Yf h1,Yf h8];rfl,hb0⟩
  ·go_enter Tryz.func49,Tryz.ntmps49
   go_wp2_with fail
   go_ret;exact ⟨by rw [HV.out,Yf h1,Ye (show ¬ n<=8 by omega)];rfl,Yp _ _⟩
 ·go_enter Tryz.func49,Tryz.ntmps49
  go_wp2_with fail
  go_ret;exact ⟨by rw [HV.out,Ye (show ¬ 1<=n by omega)];rfl,Yp _ _⟩
theorem zDn (vs:List Value) (d:Dy) (w:World) (h:RD w vs d) (hd:Bd d):Calls Tryz.prog 95 (#[.agg vs.toArray]++#[]) w (zBW (!vld d) w):=by
 rw [Array.append_empty];obtain ⟨A,n,c,rfl,hs⟩:=h;obtain ⟨dn,dl,de⟩:=d;dsimp only at hs ⊢;have r1:RD w [.bool dn,.slice A n c,.int .i64 de] ⟨dn,dl,de⟩:=⟨A,n,c,rfl,hs⟩;have hb0:=zAE w (.cells #[.bool dn,.slice A n c,.int .i64 de] 41);have H1:=Zh (zAQ w _ _ _ r1 hb0);clear hs r1;go_enter Tryz.func95,Tryz.ntmps95
 go_wp2_with fail
 refine (zEl _ _ _ H1.out hd).mono ?_;rintro e w1 ⟨rfl,hb1⟩
 generalize vld ⟨dn,dl,de⟩=r at *;go_wp2_with fail
 go_ret;exact ⟨rfl,zAA hb0 hb1⟩
theorem zKR (vs:List Value) (d:Dy) (w:World) (h:RD w vs d) (hd:Bd d):Calls Tryz.prog 104 (#[.agg vs.toArray]++#[]) w (zBW (!vld d) w):=by
 rw [Array.append_empty];obtain ⟨A,n,c,rfl,hs⟩:=h;obtain ⟨dn,dl,de⟩:=d;dsimp only at hs ⊢;have r1:RD w [.bool dn,.slice A n c,.int .i64 de] ⟨dn,dl,de⟩:=⟨A,n,c,rfl,hs⟩;have hb0:=zAE w (.cells #[.bool dn,.slice A n c,.int .i64 de] 41);have H1:=Zh (zAQ w _ _ _ r1 hb0);clear hs r1;go_enter Tryz.func104,Tryz.ntmps104
 go_wp2_with fail
 refine (zEl _ _ _ H1.out hd).mono ?_;rintro e w1 ⟨rfl,hb1⟩
 generalize vld ⟨dn,dl,de⟩=r at *;go_wp2_with fail
 go_ret;exact ⟨rfl,zAA hb0 hb1⟩
theorem zKg:Bd zAZ:=by unfold Bd;simp [zAZ]
theorem zGr (vs:List Value) (x:Iv) (w:World) (h:RI w vs x) (hx:BdI x):Calls Tryz.prog 97 (#[.agg vs.toArray]++#[]) w (zBW (x.all || !zCM x zAZ) w):=by
 rw [Array.append_empty];obtain ⟨A,n,c,B,m,b,rfl,h1,h2⟩:=h;obtain ⟨⟨ln,ll,le⟩,⟨un,ul,ue⟩,al⟩:=x;dsimp only at h1 h2 ⊢;have rI:RI w [.bool ln,.slice A n c,.int .i64 le,.bool un,.slice B m b,.int .i64 ue,.bool al] ⟨⟨ln,ll,le⟩,⟨un,ul,ue⟩,al⟩:=⟨A,n,c,B,m,b,rfl,h1,h2⟩;have r1:RD w [.bool ln,.slice A n c,.int .i64 le] ⟨ln,ll,le⟩:=⟨A,n,c,rfl,h1⟩;have r2:RD w [.bool un,.slice B m b,.int .i64 ue] ⟨un,ul,ue⟩:=⟨B,m,b,rfl,h2⟩;have HI:=Zh (fun W hb=>zAX w W _ _ rI hb);have H1:=Zh (fun W hb=>zAQ w W _ _ r1 hb);have H2:=Zh (fun W hb=>zAQ w W _ _ r2 hb);have HX:=Zh hx;clear h1 h2 hx r1 r2 rI;have hb0:=zAE w (.cells #[.bool ln,.slice A n c,.int .i64 le,.bool un,.slice B m b,.int .i64 ue,.bool al] 43);have k0:=Blk.new w 43 #[.bool ln,.slice A n c,.int .i64 le,.bool un,.slice B m b,.int .i64 ue,.bool al];cases al
 ·have HV:Hid ((false || !zCM ⟨⟨ln,ll,le⟩,⟨un,ul,ue⟩,false⟩ zAZ) = !zCM ⟨⟨ln,ll,le⟩,⟨un,ul,ue⟩,false⟩ zAZ):=rfl
  go_enter Tryz.func97,Tryz.ntmps97
  go_wp2_with fail
  generalize w.alloc (.cells #[.bool ln,.slice A n c,.int .i64 le,.bool un,.slice B m b,.int .i64 ue,.bool false] 43)=W0 at *;refine (zQB _ [.bool false,.slice none 0 0,.int .i64 0] _ zAZ _ (HI.out _ hb0) ⟨none,0,0,rfl,SL.nil _⟩ HX.out zKg).mono ?_;rintro e w1 ⟨rfl,hb1x⟩
  replace hb0:=zAA hb0 hb1x;replace k0:=k0.next hb1x;clear hb1x;generalize zCM ⟨⟨ln,ll,le⟩,⟨un,ul,ue⟩,false⟩ zAZ=r at *;go_wp2_with fail
  go_ret;exact ⟨by rw [HV.out];rfl,hb0⟩
 ·have HV:Hid ((true || !zCM ⟨⟨ln,ll,le⟩,⟨un,ul,ue⟩,true⟩ zAZ)=true):=rfl
  go_enter Tryz.func97,Tryz.ntmps97
  go_wp2_with fail
  go_ret;exact ⟨by rfl,hb0⟩
theorem zGq (N:Nat) (gN gB:Nat) (vs:List Value) (l:List Dy) (w:World) (h:RM w vs l) (hd:∀d∈l,Bd d) (kN:w.cell? ⟨gN,0,none⟩=some (.int .i64 N)) (kB:w.cell? ⟨gB,0,none⟩=some (.func (.func 95) #[] #[])):Calls Tryz.prog 96 (#[(vs[0]?).getD undef]++#[.pointer (some ⟨gN,0,none⟩),.pointer (some ⟨gB,0,none⟩)]) w (zBW (decide (l.length≠N) || l.any (fun d=>!vld d)) w):=by
 obtain ⟨A,n,c,rfl,hs⟩:=h;have e:(#[(([.slice A n c]:List Value)[0]?).getD undef]++#[.pointer (some ⟨gN,0,none⟩),.pointer (some ⟨gB,0,none⟩)]:Array Value)=#[.slice A n c,.pointer (some ⟨gN,0,none⟩),.pointer (some ⟨gB,0,none⟩)]:=by simp
 rw [e];obtain ⟨r,hr⟩:∃r,l.any (fun d=>!vld d)=r:=⟨_,rfl⟩;have HV:Hid ((decide (l.length≠N) || l.any (fun d=>!vld d))=(decide (n≠N) || r)):=by unfold Hid;rw [hs.len,hr]
 have HC:=Zh (zCA (fun d=>!vld d) 95 #[] A n c l w hs (zCQ Tryz.func95 (by kernel_rfl) rfl) (fun W us d _ hm hr=>zDn us d W hr (hd d hm)));have hm:=hs.cap;have hm2:=hs.max;rw [hr] at HC;clear hs hd e hr;by_cases hn:n=N
 ·subst hn
  go_enter Tryz.func96,Tryz.ntmps96
  go_wp2_with fail
  refine HC.out.mono ?_;rintro e w1 ⟨rfl,hb0⟩
  go_wp2_with fail
  go_ret;exact ⟨by rw [HV.out,Ye (show ¬ n≠n by simp)];rfl,hb0⟩
 ·have hne:((n:Int) != (N:Int))=true:=by rw [bne_iff_ne];omega
  go_enter Tryz.func96,Tryz.ntmps96
  go_wp2_with fail
  go_ret;exact ⟨by rw [HV.out,Yf (show n≠N from hn)];rfl,Yp _ _⟩
theorem zLN (N:Nat) (gN:Nat) (vs:List Value) (l:List Dy) (w:World) (h:RM w vs l) (hd:∀d∈l,Bd d) (kN:w.cell? ⟨gN,0,none⟩=some (.int .i64 N)):Calls Tryz.prog 103 (#[(vs[0]?).getD undef]++#[.pointer (some ⟨gN,0,none⟩)]) w (zBW (decide (l.length≠N) || l.any (fun d=>!vld d)) w):=by
 obtain ⟨A,n,c,rfl,hs⟩:=h;have e:(#[(([.slice A n c]:List Value)[0]?).getD undef]++#[.pointer (some ⟨gN,0,none⟩)]:Array Value)=#[.slice A n c,.pointer (some ⟨gN,0,none⟩)]:=by simp
 rw [e];obtain ⟨r,hr⟩:∃r,l.any (fun d=>!vld d)=r:=⟨_,rfl⟩;have HV:Hid ((decide (l.length≠N) || l.any (fun d=>!vld d))=(decide (n≠N) || r)):=by unfold Hid;rw [hs.len,hr]
 have HC:=Zh (zCA (fun d=>!vld d) 104 #[] A n c l w hs (zCQ Tryz.func104 (by kernel_rfl) rfl) (fun W us d _ hm hr=>zKR us d W hr (hd d hm)));have hm:=hs.cap;have hm2:=hs.max;rw [hr] at HC;clear hs hd e hr;by_cases hn:n=N
 ·subst hn
  go_enter Tryz.func103,Tryz.ntmps103
  go_wp2_with fail
  refine HC.out.mono ?_;rintro e w1 ⟨rfl,hb0⟩
  go_wp2_with fail
  go_ret;exact ⟨by rw [HV.out,Ye (show ¬ n≠n by simp)];rfl,hb0⟩
 ·have hne:((n:Int) != (N:Int))=true:=by rw [bne_iff_ne];omega
  go_enter Tryz.func103,Tryz.ntmps103
  go_wp2_with fail
  go_ret;exact ⟨by rw [HV.out,Yf (show n≠N from hn)];rfl,Yp _ _⟩
def sqV (v:List (List Dy)) (N:Nat):Bool:=decide (v.length=N) && !v.any (fun l=>decide (l.length≠N) || l.any (fun d=>!vld d))
theorem zNE (N:Nat) (A:Option Addr) (n c:Nat) (v:List (List Dy)) (w:World) (h:Sl 1 RM w A n c v) (hx:∀l∈v,∀d∈l,Bd d):Calls Tryz.prog 50 #[.slice A n c,.int .i64 N] w (zBW (sqV v N) w):=by
 have hmf:∀ (fn:Fn) (first cap:Array Value) (w:World),(Instr.makeFunc fn first cap).run Tryz.prog w=.ok (.func fn first cap) w:=fun _ _ _ _=>rfl
 have HV:Hid (sqV v N=(decide (n=N) && !v.any (fun l=>decide (l.length≠N) || l.any (fun d=>!vld d)))):=by unfold Hid sqV;rw [h.len]
 have hb0:=zAE w (.cells #[.int .i64 N] 3);have k0:=Blk.new w 3 #[.int .i64 N];have HC:=Zh (zCw (fun l=>decide (l.length≠N) || l.any (fun d=>!vld d)) 103 #[.pointer (some ⟨w.heap.size,0,none⟩)] A n c v _ (h.next zAh hb0) (zCQ Tryz.func103 (by kernel_rfl) rfl) (fun W vs l hb hm hr=>zLN N w.heap.size vs l W hr (hx l hm) (k0.next hb).cells1));have hm:=h.cap;have hm2:=h.max;clear h hx;by_cases hn:n=N
 ·subst hn
  go_enter Tryz.func50,Tryz.ntmps50
  go_wp2_with fail
  refine HC.out.mono ?_;rintro e w1 ⟨rfl,hb1⟩
  generalize v.any (fun l=>decide (l.length≠n) || l.any (fun d=>!vld d))=r at *;go_wp2_with fail
  go_ret;exact ⟨by rw [HV.out];first | rfl | simp,zAA hb0 hb1⟩
 ·have hne:((n:Int) == (N:Int))=false:=by rw [Xh];omega
  go_enter Tryz.func50,Tryz.ntmps50
  go_wp2_with fail
  go_ret;exact ⟨by rw [HV.out,Ye hn];rfl,hb0⟩
theorem zEQ (vs:List Value) (f:Fr) (w:World) (h:RF w vs f) (hx:BdF f):Calls Tryz.prog 44 #[.agg vs.toArray] w (zBW (frV f) w):=by
 have hmf:∀ (fn:Fn) (first cap:Array Value) (w:World),(Instr.makeFunc fn first cap).run Tryz.prog w=.ok (.func fn first cap) w:=fun _ _ _ _=>rfl
 obtain ⟨A,n,c,B,m,d,C,p,q,rfl,h1,h2,h3⟩:=h;have HV:Hid (frV f=(decide (1<=n) && decide (n<=8) && decide (m=n) && decide (p=n) && !f.c.any (fun d=>!vld d) && !f.a.any (fun l=>decide (l.length≠n) || l.any (fun d=>!vld d)) && !f.r.any (fun x=>x.all || !zCM x zAZ))):=by unfold Hid frV;rw [h1.len,h2.len,h3.len]
 have m1:=h1.cap;have m2:=h1.max;have m3:=h2.cap;have m4:=h2.max;have m5:=h3.cap;have m6:=h3.max;have hbx:=zAA (zAA (zAE w (.cells #[.slice A n c,.slice B m d,.slice C p q] 26)) (zAE (w.alloc (.cells #[.slice A n c,.slice B m d,.slice C p q] 26)) (.cells #[.int .i64 n] 3))) (zAE ((w.alloc (.cells #[.slice A n c,.slice B m d,.slice C p q] 26)).alloc (.cells #[.int .i64 n] 3)) (.cells #[.func (.func 95) #[] #[]] 89));have hbs:=zAA (zAE w (.cells #[.slice A n c,.slice B m d,.slice C p q] 26)) (zAE (w.alloc (.cells #[.slice A n c,.slice B m d,.slice C p q] 26)) (.cells #[.int .i64 n] 3));have k0:=((Blk.new w 26 #[.slice A n c,.slice B m d,.slice C p q]).next (zAE (w.alloc (.cells #[.slice A n c,.slice B m d,.slice C p q] 26)) (.cells #[.int .i64 n] 3))).next (zAE ((w.alloc (.cells #[.slice A n c,.slice B m d,.slice C p q] 26)).alloc (.cells #[.int .i64 n] 3)) (.cells #[.func (.func 95) #[] #[]] 89));have k1:=(Blk.newAt (w.alloc (.cells #[.slice A n c,.slice B m d,.slice C p q] 26)) 3 #[.int .i64 n] (g:=w.heap.size+1) (by simp)).next (zAE ((w.alloc (.cells #[.slice A n c,.slice B m d,.slice C p q] 26)).alloc (.cells #[.int .i64 n] 3)) (.cells #[.func (.func 95) #[] #[]] 89));have k2:Blk (((w.alloc (.cells #[.slice A n c,.slice B m d,.slice C p q] 26)).alloc (.cells #[.int .i64 n] 3)).alloc (.cells #[.func (.func 95) #[] #[]] 89)) (w.heap.size+1+1) 89 #[.func (.func 95) #[] #[]]:=Blk.newAt _ _ _ (by simp);have HA:=Zh (fun W (hb:Below w.heap.size w W)=>zCA (fun d=>!vld d) 95 #[] A n c f.c W (h1.next zAQ hb) (zCQ Tryz.func95 (by kernel_rfl) rfl) (fun V us d _ hm hr=>zDn us d V hr (hx.c d hm)));have HB:=Zh (fun W (hb:Below w.heap.size w W) (gN gB:Nat) (kN:Blk W gN 3 #[.int .i64 n]) (kB:Blk W gB 89 #[.func (.func 95) #[] #[]])=>zCw (fun l=>decide (l.length≠n) || l.any (fun d=>!vld d)) 96 #[.pointer (some ⟨gN,0,none⟩),.pointer (some ⟨gB,0,none⟩)] B m d f.a W (h2.next zAh hb) (zCQ Tryz.func96 (by kernel_rfl) rfl) (fun V us l hb' hm hr=>zGq n gN gB us l V hr (hx.a l hm) (kN.next hb').cells1 (kB.next hb').cells1));have HC:=Zh (fun W (hb:Below w.heap.size w W)=>zCv (fun x=>x.all || !zCM x zAZ) 97 #[] C p q f.r W (h3.next zAX hb) (zCQ Tryz.func97 (by kernel_rfl) rfl) (fun V us x _ hm hr=>zGr us x V hr (hx.r x hm)));clear h1 h2 h3 hx;generalize f.c.any (fun d=>!vld d)=rc at *;generalize f.a.any (fun l=>decide (l.length≠n) || l.any (fun d=>!vld d))=ra at *;generalize f.r.any (fun x=>x.all || !zCM x zAZ)=rr at *;by_cases e1:1<=n
 rotate_left
 ·clear k0 k1 k2 hbx HA HB HC
  go_enter Tryz.func44,Tryz.ntmps44
  go_wp2_with fail
  go_ret;exact ⟨by rw [HV.out,Ye (show ¬ 1<=n by omega)];rfl,hbs⟩
 by_cases e2:n<=8
 rotate_left
 ·clear k0 k1 k2 hbx HA HB HC
  go_enter Tryz.func44,Tryz.ntmps44
  go_wp2_with fail
  go_ret;exact ⟨by rw [HV.out,Yf e1,Ye (show ¬ n<=8 by omega)];rfl,hbs⟩
 by_cases e3:m=n
 rotate_left
 ·clear k0 k1 k2 hbx HA HB HC
  have hne:((m:Int) != (n:Int))=true:=by rw [bne_iff_ne];omega
  go_enter Tryz.func44,Tryz.ntmps44
  go_wp2_with fail
  go_ret;exact ⟨by rw [HV.out,Yf e1,Yf e2,Ye e3];rfl,hbs⟩
 have HE3:=Zh e3;have he3:((m:Int) != (n:Int))=false:=by rw [e3];simp
 clear e3;by_cases e4:p=n
 rotate_left
 ·clear k0 k1 k2 hbx HA HB HC
  have hne:((p:Int) != (n:Int))=true:=by rw [bne_iff_ne];omega
  go_enter Tryz.func44,Tryz.ntmps44
  go_wp2_with fail
  go_ret;exact ⟨by rw [HV.out,Yf e1,Yf e2,Yf HE3.out,Ye e4];rfl,hbs⟩
 have HE4:=Zh e4;have he4:((p:Int) != (n:Int))=false:=by rw [e4];simp
 clear e4;rw [Yf e1,Yf e2,Yf HE3.out,Yf HE4.out] at HV;clear hbs;go_enter Tryz.func44,Tryz.ntmps44
 go_wp2_with fail
 generalize (((w.alloc (.cells #[.slice A n c,.slice B m d,.slice C p q] 26)).alloc (.cells #[.int .i64 n] 3)).alloc (.cells #[.func (.func 95) #[] #[]] 89))=W0 at *;refine (HA.out _ hbx).mono ?_;rintro e w1 ⟨rfl,hb1x⟩
 replace hbx:=zAA hbx hb1x;replace k0:=k0.next hb1x;replace k1:=k1.next hb1x;replace k2:=k2.next hb1x;clear hb1x;cases hv1:rc;rotate_left
 ·rw [hv1] at HV
  clear hv1;go_wp2_with fail
  go_ret;exact ⟨by rw [HV.out];rfl,hbx⟩
 rw [hv1] at HV;clear hv1;obtain ⟨k0q0,k0q1,k0q2⟩:=k0.cells3;have k1q0:=k1.cells1;have k2q0:=k2.cells1;go_wp2_with fail
 refine (HB.out _ hbx _ _ k1 k2).mono ?_;rintro e w2 ⟨rfl,hb2x⟩
 clear k0q0 k0q1 k0q2 k1q0 k2q0;replace hbx:=zAA hbx hb2x;replace k0:=k0.next hb2x;replace k1:=k1.next hb2x;replace k2:=k2.next hb2x;clear hb2x;cases hv1:ra;rotate_left
 ·rw [hv1] at HV
  clear hv1;go_wp2_with fail
  go_ret;exact ⟨by rw [HV.out];rfl,hbx⟩
 rw [hv1] at HV;clear hv1;obtain ⟨k0q0,k0q1,k0q2⟩:=k0.cells3;have k1q0:=k1.cells1;have k2q0:=k2.cells1;go_wp2_with fail
 refine (HC.out _ hbx).mono ?_;rintro e w3 ⟨rfl,hb3x⟩
 clear k0q0 k0q1 k0q2 k1q0 k2q0;replace hbx:=zAA hbx hb3x;replace k0:=k0.next hb3x;replace k1:=k1.next hb3x;replace k2:=k2.next hb3x;clear hb3x;go_wp2_with fail
 go_ret;exact ⟨by rw [HV.out];rfl,hbx⟩
def zMZ {α:Type}(p:Nat->α->Bool) (i:Nat):List α->Bool
 | []=>true
 | x::xs=>p i x && zMZ p (i+1) xs
theorem zF9 {α:Type}(p:Nat->α->Bool):∀ (xs:List α) (i:Nat),(∀ (j:Nat) (x:α),xs[j]? = some x->p (i+j) x=true)->zMZ p i xs=true:=by
 intro xs
 induction xs with
 | nil=>intro i _;rfl
 | cons x xs ih=>
  intro i h;simp only [zMZ,Yi];exact ⟨h 0 x rfl,ih (i+1) (fun j y hy=>by have:=h (j+1) y (by simpa using hy);rwa [show i+(j+1)=i+1+j by omega] at this)⟩
theorem zDe {α:Type}(p:Nat->α->Bool):∀ (xs:List α) (i j:Nat) (x:α),xs[j]? = some x->p (i+j) x=false->zMZ p i xs=false:=by
 intro xs
 induction xs with
 | nil=>intro i j x h;simp at h
 | cons y xs ih=>
  intro i j x h hp;cases j with
  | zero=>
   simp at h;subst h;simp only [zMZ];rw [show i+0=i from rfl] at hp;rw [hp];rfl
  | succ j=>
   simp only [zMZ];rw [ih (i+1) j x (by simpa using h) (by rwa [show i+1+j=i+(j+1) by omega]),Bool.and_false]
def zNR:Dy:=⟨false,[1],0⟩
def idC (i k:Nat) (d:Dy):Bool:=decide (zCH d (if i=k then zNR else zAZ)=0)
def zIi (i:Nat) (l:List Dy):Bool:=zMZ (idC i) 0 l
def idM (m:List (List Dy)):Bool:=zMZ zIi 0 m
theorem zSI:zNQ 0=zAZ:=by kernel_rfl
theorem zLt (w:World) (ht:zBx w):Calls Tryz.prog 99 #[.int .i64 0] w (zNV ⟨false,[],0⟩ w):=by
 have:=zEe 0 w (by omega) ht;rw [show zNQ ((0:Nat):Int)=⟨false,[],0⟩ from zSI] at this;exact this
theorem zJp (A:Option Addr) (n c:Nat) (m:List (List Dy)) (w:World) (h:Sl 1 RM w A n c m) (hx:∀l∈m,∀d∈l,Bd d) (ht:zBx w):Calls Tryz.prog 45 #[.slice A n c] w (zBW (idM m) w):=by
 have m1:=h.cap;have m2:=h.max;have HL:=Zh h.len;have HS:=Zh h;have HX:=Zh hx;have HT:=Zh ht;clear h hx ht;go_enter Tryz.func45,Tryz.ntmps45
 go_wp2_with fail
 go_loopw [10] (fun v wr=>∃i:Nat,i<=n/\v=.int .i64 i/\Hid (∀ (j:Nat) (l:List Dy),j<i->m[j]? = some l->zIi j l=true)/\Below w.heap.size w wr) (fun v _=>n - (intOf v).toNat)
 case atStart=>exact ⟨0,Nat.zero_le _,rfl,fun j l hj=>absurd hj (by omega),Yp _ _⟩
 case round=>
  obtain ⟨i,hi,rfl,HZ,hb⟩:=hrel;by_cases hlt:i<n
  ·obtain ⟨b,off,l,vs,rfl,hbl,hml,hk,hR,hc⟩:=HS.out.get hlt
   obtain ⟨A1,n1,c1,rfl,hs⟩:=hR;have qt:=hc 0 _ rfl;rw [Nat.mul_one,Nat.add_zero] at qt;have q0:=(hb.cell (p:=⟨b,off+i,none⟩) hbl).trans qt;have HM:=Zh hml;have HS1:=Zh hs;have HXl:=Zh (HX.out l (Yk hml));have HL1:=Zh hs.len;have m3:=hs.cap;have m4:=hs.max;clear hc qt hk hml hs;go_wp2_with fail
   clear q0
   go_loopw [17] (fun v wi=>∃k:Nat,k<=n1/\v=.int .i64 k/\Hid (∀ (j:Nat) (d:Dy),j<k->l[j]? = some d->idC i j d=true)/\Below w.heap.size w wi) (fun v _=>n1 - (intOf v).toNat)
   case atStart=>exact ⟨0,Nat.zero_le _,rfl,fun j l hj=>absurd hj (by omega),hb⟩
   case round=>
    clear hb;obtain ⟨k,hk,rfl,HZ1,hb⟩:=hrel;by_cases hlt1:k<n1
    ·obtain ⟨b1,off1,d,us,rfl,hbl1,hd,hk1,hR1,hc1⟩:=HS1.out.get hlt1
     have HBd:=Zh (HXl.out d (Yk hd));have HR1:=Zh (fun W (hW:Below w.heap.size w W)=>zAQ _ _ _ _ hR1 hW);obtain ⟨DA,dm,dc,rfl,hsd⟩:=hR1;have p0:=(hb.cell (p:=⟨b1,off1+k*3,none⟩) hbl1).trans (hc1 0 _ rfl);have p1:=(hb.cell (p:=⟨b1,off1+k*3+1,none⟩) hbl1).trans (hc1 1 _ rfl);have p2:=(hb.cell (p:=⟨b1,off1+k*3+2,none⟩) hbl1).trans (hc1 2 _ rfl);obtain ⟨dn,dl,de⟩:=d;have HD:=Zh hd;clear hd hc1 hk1 hsd;dsimp only at p0 p1 p2 HR1;have kd:=Blk.new wr 41 #[.bool dn,.slice DA dm dc,.int .i64 de];have hb1:=zAE wr (.cells #[.bool dn,.slice DA dm dc,.int .i64 de] 41);replace hb:=zAt hb hb1 (Ya _);clear hb1;by_cases hik:i=k
     ·have HE:Hid (idC i k ⟨dn,dl,de⟩=decide (zCH ⟨dn,dl,de⟩ zNR=0)):=by unfold Hid idC;rw [if_pos hik]
      have hik2:((i:Int) == (k:Int))=true:=by rw [hik];simp
      clear hik;go_wp2_with fail
      generalize wr.alloc (.cells #[.bool dn,.slice DA dm dc,.int .i64 de] 41)=W1 at *;generalize wr.heap.size=gd at *;refine (zLt _ (HT.out.next hb)).mono ?_;rintro e w1 ⟨ZA,zn,zc,rfl,hs0,hf0,hb1⟩
      clear p0 p1 p2;replace hb:=zAt hb hb1 (Ya _);replace kd:=kd.next hb1;clear hb1 hs0 hf0;have hgz:=hb.size;have hgd:=Nat.ne_of_lt kd.lt;have kz:=Blk.new w1 41 #[.bool false,.slice ZA zn zc,.int .i64 0];have hb1:=zAE w1 (.cells #[.bool false,.slice ZA zn zc,.int .i64 0] 41);replace hb:=zAt hb hb1 (Ya _);replace kd:=kd.next hb1;clear hb1;go_wp2_with fail
      generalize w1.alloc (.cells #[.bool false,.slice ZA zn zc,.int .i64 0] 41)=W2 at *;generalize w1.heap.size=gz at *;refine (zSW _ (HT.out.next hb)).mono ?_;rintro e w2 ⟨OA,on,oc,rfl,hs1,hf1,hb1⟩
      replace hb:=zAt hb hb1 (Ya _);replace kd:=kd.next hb1;have hoff:=Off.fresh hf1 kz.lt;replace kz:=kz.next hb1;clear hb1 hf1;dsimp only at hs1;obtain ⟨z0,z1,z2⟩:=kz.cells3;have f0:=kz.frozen 0;have f1:=kz.frozen 1;have f2:=kz.frozen 2;have kz2:=kz.set3 (.bool false) (.slice OA on oc) (.int .i64 0);have kd2:=kd.off3 (g:=gz) hgd (.bool false) (.slice OA on oc) (.int .i64 0);have hs2:=hs1.off3 hoff (.bool false) (.slice OA on oc) (.int .i64 0);have hb2:=zAG hb hgz (.bool false) (.slice OA on oc) (.int .i64 0);obtain ⟨t0,t1,t2⟩:=kz2.cells3;obtain ⟨s0,s1,s2⟩:=kd2.cells3;go_wp2_with fail
      generalize ((w2.setCell ⟨gz,0,none⟩ (.bool false)).setCell ⟨gz,1,none⟩ (.slice OA on oc)).setCell ⟨gz,2,none⟩ (.int .i64 0)=W3 at *;clear z0 z1 z2 f0 f1 f2 kz kd hs1 hb t0 t1 t2 s0 s1 s2;refine (zIW _ [.bool false,.slice OA on oc,.int .i64 0] _ zNR _ (HR1.out _ hb2) ⟨OA,on,oc,rfl,hs2⟩ HBd.out (by unfold Bd zNR;simp)).mono ?_;rintro e w4 ⟨rfl,hb4⟩
      replace hb:=zAt hb2 hb4 (Ya _);clear hb2 hb4;generalize zCH ⟨dn,dl,de⟩ zNR=r at *;by_cases hr:r=0
      ·subst hr
       have HC:Hid (idC i k ⟨dn,dl,de⟩=true):=by unfold Hid;rw [HE.out];rfl
       clear HE;go_wp2_with fail
       go_roundw
       case rel=>exact ⟨k+1,by omega,by go_num,fun j d' hj hd'=>by
        by_cases hjk:j<k
        ·exact HZ1.out j d' hjk hd'
        ·obtain rfl:j=k:=by omega
         rw [HD.out] at hd';injection hd' with hd'
         rw [<- hd'];exact HC.out,hb⟩
       case measure=>simp [intOf];omega
      ·have hr2:(r != 0)=true:=by simpa using hr
       have HC:Hid (idC i k ⟨dn,dl,de⟩=false):=by unfold Hid;rw [HE.out];simpa using hr
       clear HE;go_wp2_with fail
       go_ret;refine ⟨?_,hb⟩;have hrow:zIi i l=false:=by
        unfold zIi;exact zDe _ l 0 k _ HD.out (by rw [Nat.zero_add];exact HC.out)
       have:idM m=false:=by
        unfold idM;exact zDe _ m 0 i _ HM.out (by rw [Nat.zero_add];exact hrow)
       rw [this];rfl
     ·have HE:Hid (idC i k ⟨dn,dl,de⟩=decide (zCH ⟨dn,dl,de⟩ zAZ=0)):=by unfold Hid idC;rw [if_neg hik]
      have hik2:((i:Int) == (k:Int))=false:=by rw [Xh];omega
      clear hik;go_wp2_with fail
      generalize wr.alloc (.cells #[.bool dn,.slice DA dm dc,.int .i64 de] 41)=W1 at *;generalize wr.heap.size=gd at *;refine (zLt _ (HT.out.next hb)).mono ?_;rintro e w1 ⟨ZA,zn,zc,rfl,hs0,hf0,hb1⟩
      clear p0 p1 p2;replace hb:=zAt hb hb1 (Ya _);replace kd:=kd.next hb1;clear hb1 hf0;dsimp only at hs0;have kz:=Blk.new w1 41 #[.bool false,.slice ZA zn zc,.int .i64 0];have hb1:=zAE w1 (.cells #[.bool false,.slice ZA zn zc,.int .i64 0] 41);replace hb:=zAt hb hb1 (Ya _);replace kd:=kd.next hb1;replace hs0:=hs0.below hb1;clear hb1;obtain ⟨s0,s1,s2⟩:=kd.cells3;go_wp2_with fail
      generalize w1.alloc (.cells #[.bool false,.slice ZA zn zc,.int .i64 0] 41)=W2 at *;refine (zIW _ [.bool false,.slice ZA zn zc,.int .i64 0] _ zAZ _ (HR1.out _ hb) ⟨ZA,zn,zc,rfl,hs0⟩ HBd.out zKg).mono ?_;rintro e w4 ⟨rfl,hb4⟩
      replace hb:=zAt hb hb4 (Ya _);clear hb4 s0 s1 s2;generalize zCH ⟨dn,dl,de⟩ zAZ=r at *;by_cases hr:r=0
      ·subst hr
       have HC:Hid (idC i k ⟨dn,dl,de⟩=true):=by unfold Hid;rw [HE.out];rfl
       clear HE;go_wp2_with fail
       go_roundw
       case rel=>exact ⟨k+1,by omega,by go_num,fun j d' hj hd'=>by
        by_cases hjk:j<k
        ·exact HZ1.out j d' hjk hd'
        ·obtain rfl:j=k:=by omega
         rw [HD.out] at hd';injection hd' with hd'
         rw [<- hd'];exact HC.out,hb⟩
       case measure=>simp [intOf];omega
      ·have hr2:(r != 0)=true:=by simpa using hr
       have HC:Hid (idC i k ⟨dn,dl,de⟩=false):=by unfold Hid;rw [HE.out];simpa using hr
       clear HE;go_wp2_with fail
       go_ret;refine ⟨?_,hb⟩;have hrow:zIi i l=false:=by
        unfold zIi;exact zDe _ l 0 k _ HD.out (by rw [Nat.zero_add];exact HC.out)
       have:idM m=false:=by
        unfold idM;exact zDe _ m 0 i _ HM.out (by rw [Nat.zero_add];exact hrow)
       rw [this];rfl
    ·have HRow:Hid (zIi i l=true):=by
      unfold Hid zIi;refine zF9 _ l 0 (fun j d hd=>?_);rw [Nat.zero_add];refine HZ1.out j d ?_ hd;have:=(Yb.1 hd).1;have:=HL1.out;omega
     go_wp2_with fail
     go_roundw
     case rel=>exact ⟨i+1,by omega,by go_num,fun j l' hj hl'=>by
      by_cases hji:j<i
      ·exact HZ.out j l' hji hl'
      ·obtain rfl:j=i:=by omega
       rw [HM.out] at hl';injection hl' with hl'
       rw [<- hl'];exact HRow.out,hb⟩
     case measure=>simp [intOf];omega
  ·go_wp2_with fail
   go_ret;refine ⟨?_,hb⟩;have:idM m=true:=by
    unfold idM;refine zF9 _ m 0 (fun j l hl=>?_);rw [Nat.zero_add];refine HZ.out j l ?_ hl;have:=(Yb.1 hl).1;have:=HL.out;omega
   rw [this];rfl
end Go.Proofs.YtchkfjgcbbbffaaGreatDoor
end
