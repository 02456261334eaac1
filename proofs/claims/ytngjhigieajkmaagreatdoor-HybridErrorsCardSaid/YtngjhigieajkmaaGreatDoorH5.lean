/- Bundle 5: what the law's walk stands on: Math, Words, Shelf, A1, A2, Math2, A3, A4, Math3, A5. -/
import Derived.Deep.RegionHeld
import Derived.Lib.Hide
import Derived.WalkKit
import Derived.WalkSpells
import Derived.WalkLawsBesides
import Derived.Deep.Draws
import Derived.Maps.AppendAt
import Derived.Deep.AppendLies
import Derived.Shelf.Lays7
import Derived.Shelf.Spec.TrailingZeros
import Derived.Shelf.Small.Bits
import Derived.Shelf.Small.Strs
import Derived.Shelf.Small.Wraps
import Derived.Shelf.Strconv.Itoa0
import Derived.Shelf.Strings.Search1
import Derived.Shelf.Sort.Plain
import Derived.Shelf.Bits.Mul64
import Derived.Shelf.Slices.Turned
import Derived.Shelf.Slices.Equal
import Derived.Ground.Names2Prog
import Derived.Shelf.Slices.Clone
import Derived.Shelf.Slices.CompactS
import Derived.Shelf.Slices.SearchI
import Derived.Shelf.Slices.Cells
import Derived.Shelf.Slices.In.SortNone
import Derived.Shelf.Slices.Empties2
import Derived.Ground.SlgnProg
import Derived.Shelf.SlicesE.Clone
import Derived.Test.YtngjhigieajkmaaGreatDoorProg
import Derived.Outline
import Derived.Lib.ItoaNum
import Derived.Deep.QuietTactic
import Derived.BigQuiet
import Derived.RegionTactic
set_option maxRecDepth 100000
set_option maxHeartbeats 20000000
set_option linter.all false
noncomputable section
namespace Go.Proofs.YtngjhigieajkmaaGreatDoor.Pl
def val:List Nat->Nat
 | []=>0
 | x::l=>x+4294967296*val l
def zIa:Nat->Nat->List Nat
 | 0,_=>[]
 | f+1,n=>if n=0 then [] else n%4294967296::zIa f (n / 4294967296)
def zAa (n:Nat):List Nat:=zIa n n
def zAV (l:List Nat):Prop:=∀x∈l,x<4294967296
theorem zJY (f g n:Nat) (hf:n<=f) (hg:n<=g):zIa f n=zIa g n:=by
 induction f generalizing g n with
 | zero=>
      obtain rfl:n=0:=by omega
      cases g <;> simp [zIa]
 | succ f ih=>
  cases g with
  | zero=>
       obtain rfl:n=0:=by omega
       simp [zIa]
  | succ g=>
   simp only [zIa]
   split
   ·rfl
   ·rw [ih g (n / 4294967296) (by omega) (by omega)]
theorem zCI:zAa 0=[]:=rfl
theorem zBK (n:Nat) (h:0<n):zAa n=n%4294967296::zAa (n / 4294967296):=by
 unfold zAa;obtain ⟨k,rfl⟩:∃k,n=k+1:=⟨n - 1,by omega⟩;rw [show zIa (k+1) (k+1)=if k+1=0 then [] else (k+1)%4294967296::zIa k ((k+1) / 4294967296) from rfl,if_neg (by omega)];rw [zJY k ((k+1) / 4294967296) ((k+1) / 4294967296) (by omega) (by omega)]
theorem zAH (n:Nat):val (zAa n)=n:=by
 induction n using Nat.strongRecOn with
 | ind n ih=>
  by_cases h:0<n
  ·rw [zBK n h,val,ih (n / 4294967296) (by omega)];omega
  ·obtain rfl:n=0:=by omega
   rfl
theorem zAk (n:Nat):zAV (zAa n):=by
 induction n using Nat.strongRecOn with
 | ind n ih=>
  by_cases h:0<n
  ·rw [zBK n h]
   intro x hx;rcases List.mem_cons.1 hx with rfl | hx
   ·omega
   ·exact ih (n / 4294967296) (by omega) x hx
  ·obtain rfl:n=0:=by omega
   intro x hx;simp [zCI] at hx
theorem zJZ (x v:Nat) (hx:x<4294967296) (h:0<x+4294967296*v):zAa (x+4294967296*v)=x::zAa v:=by
 rw [zBK _ h]
 congr 1
 ·omega
 ·congr 1;omega
theorem zAV.tail {x:Nat}{l:List Nat}(h:zAV (x::l)):zAV l:=fun y hy=>h y (List.mem_cons_of_mem _ hy)
theorem zAV.head {x:Nat}{l:List Nat}(h:zAV (x::l)):x<4294967296:=h x (List.mem_cons_self ..)
theorem zAV.take {l:List Nat}(h:zAV l) (k:Nat):zAV (l.take k):=fun x hx=>h x (List.mem_of_mem_take hx)
theorem zAV.drop {l:List Nat}(h:zAV l) (k:Nat):zAV (l.drop k):=fun x hx=>h x (List.mem_of_mem_drop hx)
theorem zAV.append {l m:List Nat}(h:zAV l) (h':zAV m):zAV (l++m):=fun x hx=>(List.mem_append.1 hx).elim (h x) (h' x)
theorem zAV.nil:zAV []:=fun x hx=>by cases hx
theorem zAV.single {x:Nat}(h:x<4294967296):zAV [x]:=fun y hy=>by rw [List.mem_singleton.1 hy];exact h
theorem zAV.get {l:List Nat}(h:zAV l) {i x:Nat}(hi:l[i]? = some x):x<4294967296:=h x (List.mem_of_getElem? hi)
theorem zEF (l m:List Nat):val (l++m)=val l+4294967296^l.length*val m:=by
 induction l with
 | nil=>simp [val]
 | cons x l ih=>
  rw [List.cons_append,val,ih,val,List.length_cons,Nat.pow_succ,Nat.mul_add,Nat.mul_comm (4294967296^l.length) 4294967296,Nat.mul_assoc];omega
theorem zII (x:Nat):val [x]=x:=by simp [val]
theorem zMQ (l:List Nat) (x:Nat):val (l++[x])=val l+4294967296^l.length*x:=by rw [zEF,zII]
theorem zBi (l:List Nat) (k x:Nat) (h:l[k]? = some x):val (l.take (k+1))=val (l.take k)+4294967296^k*x:=by
 have hk:k<l.length:=by
  rcases Nat.lt_or_ge k l.length with h' | h'
  ·exact h'
  ·rw [List.getElem?_eq_none h'] at h;cases h
 have hx:l[k]=x:=by rw [List.getElem?_eq_getElem hk] at h;injection h
 rw [List.take_succ_eq_append_getElem hk,zMQ,hx,List.length_take,Nat.min_eq_left (by omega)]
theorem zBh (l:List Nat) (k:Nat):val l=val (l.take k)+4294967296^(l.take k).length*val (l.drop k):=by
 rw [<- zEF,List.take_append_drop]
theorem zB0 (l:List Nat) (h:zAV l):val l<4294967296^l.length:=by
 induction l with
 | nil=>simp [val]
 | cons x l ih=>
  have:=ih h.tail;have hx:=h.head;rw [val,List.length_cons,Nat.pow_succ];omega
theorem zDS {l:List Nat}(h:∀x∈l,x=0):val l=0:=by
 induction l with
 | nil=>rfl
 | cons x l ih=>rw [val,ih (fun y hy=>h y (List.mem_cons_of_mem _ hy)),h x (List.mem_cons_self ..)]
def zKd (l:List Nat):Prop:=l.getLast? ≠ some 0
theorem zD3 (l:List Nat) (h:zAV l) (ht:zKd l):zAa (val l)=l:=by
 induction l with
 | nil=>rfl
 | cons x l ih=>
  have hx:=h.head;cases l with
  | nil=>
   have h0:x≠0:=by
    rintro rfl
    exact ht rfl
   rw [val,zJZ x _ hx (by omega)];rfl
  | cons y l=>
   have ht':zKd (y::l):=by
    unfold zKd at ht ⊢
    rwa [List.getLast?_cons_cons] at ht
   have e:=ih h.tail ht';have hp:0<val (y::l):=by
    rcases Nat.eq_zero_or_pos (val (y::l)) with h0 | h0
    ·rw [h0] at e;cases e
    ·exact h0
   rw [val,zJZ x _ hx (by omega),e]
theorem zDC (n:Nat):zKd (zAa n):=by
 induction n using Nat.strongRecOn with
 | ind n ih=>
  by_cases h:0<n
  ·rw [zBK n h]
   unfold zKd;by_cases h2:0<n / 4294967296
   ·have:=ih (n / 4294967296) (by omega)
    rw [zBK _ h2] at this ⊢;unfold zKd at this
    rwa [List.getLast?_cons_cons]
   ·have h0:n / 4294967296=0:=by omega
    rw [h0,zCI];simp;omega
  ·obtain rfl:n=0:=by omega
   simp [zKd,zCI]
theorem zP1 {a b:Nat}(h:zAa a=zAa b):a=b:=by rw [<- zAH a,<- zAH b,h]
theorem zBQ (n k:Nat) (h:n<4294967296^k):(zAa n).length<=k:=by
 induction k generalizing n with
 | zero=>
      obtain rfl:n=0:=by simp at h;omega
      simp [zCI]
 | succ k ih=>
  by_cases hp:0<n
  ·rw [zBK n hp,List.length_cons]
   have:=ih (n / 4294967296) (by rw [Nat.pow_succ] at h;omega);omega
  ·obtain rfl:n=0:=by omega
   simp [zCI]
theorem zCy (n:Nat):n<4294967296^(zAa n).length:=by
 have:=zB0 (zAa n) (zAk n)
 rwa [zAH] at this
theorem zAl (l:List Nat) (h:zAV l):(zAa (val l)).length<=l.length:=zBQ _ _ (zB0 l h)
theorem zHK (l:List Nat) (h:zAV l) (k:Nat) (hk:k<=l.length) (hz:∀j,k<=j->j<l.length->l[j]? = some 0) (he:k=0\/l[k - 1]? ≠ some 0):l.take k=zAa (val l):=by
 have hd:val (l.drop k)=0:=zDS (by
  intro x hx;obtain ⟨i,hi,rfl⟩:=List.mem_iff_getElem.1 hx;have hi':k+i<l.length:=by rw [List.length_drop] at hi;omega
  have:=hz (k+i) (by omega) hi';rw [List.getElem?_eq_getElem hi'] at this;rw [List.getElem_drop];injection this)
 have hv:val l=val (l.take k):=by rw [zBh l k,hd];omega
 rw [hv,zD3 _ (h.take k)];unfold zKd;rcases he with rfl | he
 ·simp
 ·by_cases h0:k=0
  ·subst h0;simp
  ·rw [List.getLast?_eq_getElem?,List.length_take,Nat.min_eq_left hk,List.getElem?_take_of_lt (by omega)]
   exact he
theorem zJa (l:List Nat) (h:zAV l):l.take (zAa (val l)).length=zAa (val l):=by
 suffices H:∀n,n<=l.length->(∀j,n<=j->j<l.length->l[j]? = some 0)->∃k,k<=l.length/\(∀j,k<=j->j<l.length->l[j]? = some 0)/\(k=0\/l[k - 1]? ≠ some 0) by
  obtain ⟨k,hk,hz,he⟩:=H l.length (Nat.le_refl _) (fun j h1 h2=>absurd h2 (by omega));have e:=zHK l h k hk hz he;have:(zAa (val l)).length=k:=by rw [<- e,List.length_take,Nat.min_eq_left hk]
  rw [this,e]
 intro n
 induction n with
 | zero=>intro hn hz;exact ⟨0,hn,hz,.inl rfl⟩
 | succ n ih=>
  intro hn hz;by_cases hl:l[n]? = some 0
  ·exact ih (by omega) (fun j h1 h2=>by
    rcases Nat.eq_or_lt_of_le h1 with rfl | h1
    ·exact hl
    ·exact hz j h1 h2)
  ·exact ⟨n+1,hn,hz,.inr hl⟩
def zAT (n:Nat):Nat:=if n=0 then 0 else n.log2+1
theorem zJT:zAT 0=0:=rfl
theorem zBu (n:Nat):n<2^zAT n:=by
 unfold zAT
 split
 ·omega
 ·exact Nat.lt_log2_self
theorem zDL (n:Nat) (h:0<n):2^(zAT n - 1)<=n:=by
 unfold zAT;rw [if_neg (by omega),Nat.add_sub_cancel];exact Nat.log2_self_le (by omega)
theorem zCS (n:Nat) (h:0<n):0<zAT n:=by unfold zAT;rw [if_neg (by omega)];omega
theorem zOh {a b:Nat}(h:2^a<2^b):a<b:=(Nat.pow_lt_pow_iff_right (by omega)).1 h
theorem zBH (n k:Nat) (h:n<2^k):zAT n<=k:=by
 rcases Nat.eq_zero_or_pos n with rfl | h0
 ·simp [zAT]
 ·have h1:=zDL n h0
  have h2:=zCS n h0;have:=zOh (Nat.lt_of_le_of_lt h1 h);omega
theorem zC8 (n k:Nat) (h:2^k<=n):k<zAT n:=zOh (Nat.lt_of_le_of_lt h (zBu n))
theorem zIR (n k:Nat) (h1:2^k<=n) (h2:n<2^(k+1)):zAT n=k+1:=by
 have:=zBH n (k+1) h2;have:=zC8 n k h1;omega
theorem zBS (k:Nat):4294967296^k=2^(32*k):=by rw [Nat.pow_mul]
theorem zAc (n k:Nat) (h:0<n):zAT (n*2^k)=zAT n+k:=by
 have h1:=zDL n h;have h2:=zBu n;have h3:=zCS n h;obtain ⟨b,hb⟩:∃b,zAT n=b+1:=⟨zAT n - 1,by omega⟩;rw [hb] at h1 h2 ⊢;rw [Nat.add_sub_cancel] at h1;have:=zIR (n*2^k) (b+k) (by rw [Nat.pow_add];exact Nat.mul_le_mul_right _ h1) (by
  rw [show b+k+1=b+1+k from by omega,Nat.pow_add];exact Nat.mul_lt_mul_of_pos_right h2 (Nat.two_pow_pos k))
 omega
theorem zLY (l:List Nat) (h:zAV l) (k x b:Nat) (hl:l.length=k+1) (hx:l[k]? = some x) (h1:2^b<=x) (h2:x<2^(b+1)):zAT (val l)=32*k+(b+1):=by
 have e:val l=val (l.take k)+4294967296^k*x:=by
  have:=zBi l k x hx
  rwa [List.take_of_length_le (by omega)] at this
 have hlt:val (l.take k)<4294967296^k:=by
  have:=zB0 (l.take k) (h.take k)
  rwa [List.length_take,Nat.min_eq_left (by omega)] at this
 rw [e];rw [zBS] at hlt ⊢;have:=zIR (val (l.take k)+2^(32*k)*x) (32*k+b) (by
  rw [Nat.pow_add];have:=Nat.mul_le_mul_left (2^(32*k)) h1;omega) (by
  rw [show 32*k+b+1=32*k+(b+1) from by omega,Nat.pow_add];have:2^(32*k)*(x+1)<=2^(32*k)*2^(b+1):=Nat.mul_le_mul_left _ h2;rw [Nat.mul_add] at this;omega)
 omega
def zCT (x y:Nat):Int:=if x<y then -1 else if y<x then 1 else 0
theorem zBo {x y:Nat}(h:(zAa x).length<(zAa y).length):x<y:=by
 rcases Nat.lt_or_ge x y with h' | h'
 ·exact h'
 ·have:=zBQ y (zAa x).length (Nat.lt_of_le_of_lt h' (zCy x))
  omega
theorem zDQ {l m:List Nat}(hl:zAV l) {k x y:Nat}(hlen:l.length=m.length) (hd:l.drop (k+1)=m.drop (k+1)) (hx:l[k]? = some x) (hy:m[k]? = some y) (hxy:x<y):val l<val m:=by
 have hk:k<l.length:=by
  rcases Nat.lt_or_ge k l.length with h' | h'
  ·exact h'
  ·rw [List.getElem?_eq_none h'] at hx;cases hx
 have e1:=zBi l k x hx;have e2:=zBi m k y hy;have hlt:=zB0 (l.take k) (hl.take k);rw [List.length_take,Nat.min_eq_left (by omega)] at hlt;rw [zBh l (k+1),zBh m (k+1),hd,List.length_take,List.length_take,hlen,e1,e2];have:4294967296^k*(x+1)<=4294967296^k*y:=Nat.mul_le_mul_left _ hxy;rw [Nat.mul_add] at this;omega
theorem zCL {x y:Nat}(h:x<y):zCT x y = -1:=by simp [zCT,h]
theorem zDI {x y:Nat}(h:y<x):zCT x y=1:=by unfold zCT;rw [if_neg (by omega),if_pos h]
theorem zFT {x y:Nat}(h:x=y):zCT x y=0:=by unfold zCT;rw [if_neg (by omega),if_neg (by omega)]
end Go.Proofs.YtngjhigieajkmaaGreatDoor.Pl
namespace Go.Proofs.YtngjhigieajkmaaGreatDoor
open Go.RowKit Pl
theorem Zh {p:Prop}(h:p):Hid p:=h
theorem sT:type_of% @List.setIfInBounds_toArray:=@List.setIfInBounds_toArray
theorem sZ:type_of% @List.set_cons_zero:=@List.set_cons_zero
theorem sS:type_of% @List.set_cons_succ:=@List.set_cons_succ
theorem tk {P:Program}{ops:Array Oper}{Q:Exit->Act->World->Prop}{md:Region.Mode}{S:World->Prop}{i:Nat}{oi:Oper}{v:Value}{fuel:Nat}{listed:Array Bool}{a:Act}{w:World}(hi:ops[i]?=some oi)(hw:Region.wanted oi (yielded ops a.tmps)=true)(hv:∀w,S w->(execOp a.eval oi).run P w=.ok (.value v) w)(hS:S w)(h:wpAnyH P md ops Q S fuel (listed.setIfInBounds i true) (a.put oi.dst v) w)(hs:Region.noSelect ops=true:=by kernel_rfl)(hf:Region.free md ops listed i=true:=by kernel_rfl)(hr:(Region.ready md ops listed).contains i=true:=by kernel_rfl)(hQ:∀c a w,Q (.panic c) (a.put oi.dst v) w->Q (.panic c) a w:=by exact fun _ _ _ h=>h):wpAnyH P md ops Q S (fuel+1) listed a w:=wpAnyH_take hi hs hf hr hQ (Or.inl ⟨hw,hv⟩) hS h
theorem Ya:type_of% @Nat.le_refl:=@Nat.le_refl
theorem Yb:type_of% @List.getElem?_eq_some_iff:=@List.getElem?_eq_some_iff
theorem Yc:type_of% @AllReadyH.cons:=@AllReadyH.cons
theorem Yd:type_of% @AllReadyH.nil:=@AllReadyH.nil
theorem Ye:type_of% @decide_eq_false:=@decide_eq_false
theorem Yf:type_of% @decide_eq_true:=@decide_eq_true
theorem Yg:type_of% @Nat.eq_of_beq_eq_true:=@Nat.eq_of_beq_eq_true
theorem Yh:type_of% @Nat.lt_of_lt_of_le:=@Nat.lt_of_lt_of_le
theorem Yi:type_of% @Bool.and_eq_true:=@Bool.and_eq_true
theorem Yj:type_of% @wpAnyH_ready:=@wpAnyH_ready
theorem Yk:type_of% @List.mem_of_getElem?:=@List.mem_of_getElem?
theorem Yl:type_of% @Below.heap_setCell:=@Below.heap_setCell
theorem Ym:type_of% @Nat.le_of_ble_eq_true:=@Nat.le_of_ble_eq_true
theorem Yn:type_of% @bodyPost_ret:=@bodyPost_ret
theorem Yo:type_of% @List.getElem?_eq_getElem:=@List.getElem?_eq_getElem
theorem Yp:type_of% @Below.refl:=@Below.refl
theorem Yq:type_of% @Nat.le_trans:=@Nat.le_trans
theorem Yr:type_of% @List.length_take:=@List.length_take
theorem Ys:type_of% @Nat.le_of_eq:=@Nat.le_of_eq
theorem Yt:type_of% @List.mem_append:=@List.mem_append
theorem Yu:type_of% @List.length_append:=@List.length_append
theorem Yv:type_of% @Array.getElem?_eq_some_iff:=@Array.getElem?_eq_some_iff
theorem Yw:type_of% @List.getElem?_append_left:=@List.getElem?_append_left
theorem Yx:type_of% @List.getElem?_append_right:=@List.getElem?_append_right
theorem Yy:type_of% @List.getElem?_eq_none:=@List.getElem?_eq_none
theorem Yz:type_of% @Nat.mul_assoc:=@Nat.mul_assoc
theorem Xa:type_of% @decide_eq_true_eq:=@decide_eq_true_eq
theorem Xb:type_of% @Array.getElem?_setIfInBounds_ne:=@Array.getElem?_setIfInBounds_ne
theorem Xc:type_of% @Bool.or_eq_false_iff:=@Bool.or_eq_false_iff
theorem Xd:type_of% @List.take_of_length_le:=@List.take_of_length_le
theorem Xe:type_of% @List.length_map:=@List.length_map
theorem Xf:type_of% @List.getElem?_take_of_lt:=@List.getElem?_take_of_lt
theorem Xg:type_of% @Nat.pow_le_pow_right:=@Nat.pow_le_pow_right
theorem Xh:type_of% @beq_eq_false_iff_ne:=@beq_eq_false_iff_ne
theorem Xi:type_of% @Nat.pow_succ:=@Nat.pow_succ
theorem Xj:type_of% @Nat.lt_or_ge:=@Nat.lt_or_ge
theorem Xk:type_of% @decide_eq_decide:=@decide_eq_decide
theorem Xl:type_of% @Nat.ne_of_beq_eq_false:=@Nat.ne_of_beq_eq_false
theorem Xm:type_of% @Nat.eq_zero_or_pos:=@Nat.eq_zero_or_pos
theorem zMY (a:Addr) (i j:Nat):(a.add i).add j=a.add (i+j):=by
 unfold Addr.add;by_cases hi:i=0 <;> by_cases hj:j=0 <;> simp [hi,hj,Nat.add_assoc]
def u32 (x:Nat):Value:=.int .u32 (x:Int)
theorem zAR {B:Nat}{a w:World}(h:Below B a w) (n:Nat):Below B a (w.drewN n):=⟨h.os,h.tape,h.output,h.size,h.block⟩
theorem zF6 {B:Nat}{W w1:World}(hb:Below B W w1):(∀b o,b<B->w1.cell? ⟨b,o,none⟩=W.cell? ⟨b,o,none⟩)/\(∀b o,b<B->w1.frozen? ⟨b,o,none⟩=W.frozen? ⟨b,o,none⟩):=
 ⟨fun b o h=>hb.cell (p:=⟨b,o,none⟩) h,fun b o h=>hb.frozen (p:=⟨b,o,none⟩) h⟩
theorem zAE (w:World) (o:Obj):Below w.heap.size w (w.alloc o):=(Yp _ _).alloc (Ya _) _
theorem zAA {a b c:World}(h:Below a.heap.size a b) (k:Below b.heap.size b c):Below a.heap.size a c:=h.trans (k.mono h.size)
structure SL (w:World) (A:Option Addr) (n c:Nat) (l:List Nat):Prop where
 len:l.length=n
 cap:n<=c
 max:c<=9223372036854775807
 lt:zAV l
 at_:0<n->∃b off,A=some ⟨b,off,none⟩/\b<w.heap.size/\∀ (j x:Nat),l[j]? = some x->w.cell? ⟨b,off+j,none⟩=some (.int .u32 (x:Int))
def zAn (B:Nat) (A:Option Addr) (n:Nat):Prop:=0<n->∃ad,A=some ad/\B<=ad.block
section
variable {w w':World}{A:Option Addr}{n c:Nat}{l:List Nat}
theorem SL.get (h:SL w A n c l) {k:Nat}(hk:k<n):∃ (b off x:Nat),A=some ⟨b,off,none⟩/\b<w.heap.size/\l[k]? = some x/\w.cell? ⟨b,off+k,none⟩=some (.int .u32 (x:Int))/\x<4294967296:=by
 obtain ⟨b,off,e,hb,hc⟩:=h.at_ (by omega);have hl:k<l.length:=by have:=h.len;omega
 exact ⟨b,off,l[k],e,hb,Yo hl,hc k _ (Yo hl),h.lt _ (List.getElem_mem hl)⟩
theorem SL.get' {b off:Nat}(h:SL w (some ⟨b,off,none⟩) n c l) {k:Nat}(hk:k<n):∃ (x:Nat),b<w.heap.size/\l[k]? = some x/\w.cell? ⟨b,off+k,none⟩=some (.int .u32 (x:Int))/\x<4294967296:=by
 obtain ⟨b',off',x,e,r⟩:=h.get hk;injection e with e
 injection e with e1 e2
 subst e1 e2;exact ⟨x,r⟩
theorem SL.keep (h:SL w A n c l) (hs:w.heap.size<=w'.heap.size) (hk:∀p:Addr,p.block<w.heap.size->w'.cell? p=w.cell? p):SL w' A n c l:=
 ⟨h.len,h.cap,h.max,h.lt,fun hn=>by
  obtain ⟨b,off,e,hb,hc⟩:=h.at_ hn;exact ⟨b,off,e,by omega,fun j u hu=>(hk _ hb).trans (hc j u hu)⟩⟩
theorem SL.below (h:SL w A n c l) (hb:Below w.heap.size w w'):SL w' A n c l:=h.keep hb.size fun _ hp=>hb.cell hp
theorem SL.alloc (h:SL w A n c l) (o:Obj):SL (w.alloc o) A n c l:=h.below ((Yp _ _).alloc (Ya _) _)
theorem SL.drew (h:SL w A n c l):SL w.drew A n c l:=⟨h.len,h.cap,h.max,h.lt,h.at_⟩
theorem SL.drewN (h:SL w A n c l) (k:Nat):SL (w.drewN k) A n c l:=⟨h.len,h.cap,h.max,h.lt,h.at_⟩
theorem SL.take (h:SL w A n c l) {k:Nat}(hk:k<=n):SL w A k c (l.take k):=
 ⟨by rw [Yr,h.len];omega,by have:=h.cap;omega,h.max,h.lt.take k,fun hn=>by
  obtain ⟨b,off,e,hb,hc⟩:=h.at_ (by omega);refine ⟨b,off,e,hb,fun j x hx=>hc j x ?_⟩;by_cases hj:j<k
  ·rwa [Xf hj] at hx
  ·rw [List.getElem?_take_eq_none (by omega)] at hx;cases hx⟩
theorem SL.trim (h:SL w A n c l):SL w A (zAa (val l)).length c (zAa (val l)):=by
 have h1:=zAl l h.lt;have h2:=h.len;have:=h.take (k:=(zAa (val l)).length) (by omega)
 rwa [zJa l h.lt] at this
theorem SL.clip (h:SL w A n c l):SL w A n n l:=⟨h.len,Ya _,by have:=h.cap;have:=h.max;omega,h.lt,h.at_⟩
theorem SL.nil (w:World):SL w none 0 0 []:=⟨rfl,by omega,by omega,zAV.nil,fun h=>absurd h (by omega)⟩
theorem SL.drop {b off:Nat}(h:SL w (some ⟨b,off,none⟩) n c l) {k:Nat}(hk:k<=n):SL w (some ⟨b,off+k,none⟩) (n - k) (c - k) (l.drop k):=by
 have hc:=h.cap;refine ⟨by rw [List.length_drop,h.len],by omega,by have:=h.max;omega,h.lt.drop k,fun hn=>?_⟩;obtain ⟨b',off',e,hb,hcell⟩:=h.at_ (by omega);injection e with e
 injection e with e1 e2
 subst e1 e2;refine ⟨_,_,rfl,hb,fun j u hu=>?_⟩;rw [Nat.add_assoc];exact hcell _ u (by rw [<- hu,List.getElem?_drop])
theorem SL.empty (h:SL w A n c l) (h0:n=0):l=[]:=List.eq_nil_of_length_eq_zero (by rw [h.len,h0])
theorem SL.one (w:World) (t:TypeId) (x:Nat) (hx:x<4294967296):SL (w.alloc (.cells #[.int .u32 (x:Int)] t)) (some ⟨w.heap.size,0,none⟩) 1 1 [x]:=
 ⟨rfl,by omega,by omega,zAV.single hx,fun _=>⟨_,_,rfl,by simp,fun j y hy=>by
  rcases j with _ | j
  ·simp at hy;subst hy;simp
  ·simp at hy⟩⟩
theorem SL.oneI (w:World) (t:TypeId) (z:Int) (x:Nat) (hz:z=(x:Int)) (hx:x<4294967296):SL (w.alloc (.cells #[.int .u32 z] t)) (some ⟨w.heap.size,0,none⟩) 1 1 [x]:=by
 subst hz;exact SL.one w t x hx
theorem zAn.mono {B B':Nat}(h:zAn B A n) (hB:B' <= B):zAn B' A n:=fun hn=>by
 obtain ⟨ad,e,hb⟩:=h hn;exact ⟨ad,e,by omega⟩
theorem zAn.less {B m:Nat}(h:zAn B A n) (hm:m<=n):zAn B A m:=fun hn=>h (by omega)
theorem zAn.zero {B:Nat}:zAn B A 0:=fun h=>absurd h (by omega)
end
def Blk (w:World) (g:Nat) (t:TypeId) (cs:Array Value):Prop:=w.heap[g]? = some (.cells cs t (0,0))
section
variable {w w':World}{g:Nat}{t:TypeId}{cs:Array Value}
theorem Blk.lt (h:Blk w g t cs):g<w.heap.size:=by
 rcases Xj g w.heap.size with hlt | hge
 ·exact hlt
 ·unfold Blk at h;rw [Array.getElem?_eq_none hge] at h;cases h
theorem Blk.cell (h:Blk w g t cs) (i:Nat):w.cell? ⟨g,i,none⟩=cs[i]?:=by
 unfold Blk at h;simp [World.cell?,h]
theorem Blk.frozen (h:Blk w g t cs) (i:Nat):w.frozen? ⟨g,i,none⟩=false:=by
 unfold Blk at h;simp [World.frozen?,h]
theorem Blk.new (w:World) (t:TypeId) (cs:Array Value):Blk (w.alloc (.cells cs t)) w.heap.size t cs:=heap_alloc_new w _
theorem Blk.drew (h:Blk w g t cs):Blk w.drew g t cs:=h
theorem Blk.drewN (h:Blk w g t cs) (n:Nat):Blk (w.drewN n) g t cs:=h
theorem Blk.alloc (h:Blk w g t cs) (o:Obj):Blk (w.alloc o) g t cs:=(Below.heap_alloc w o g h.lt).trans h
theorem Blk.set_ (h:Blk w g t cs) (i:Nat) (u:Value):Blk (w.setCell ⟨g,i,none⟩ u) g t (cs.setIfInBounds i u):=by
 unfold Blk at h ⊢;simp [World.setCell,Array.getElem?_modify,h]
theorem Blk.far (h:Blk w g t cs) {p:Addr}(hp:g≠p.block) (u:Value):Blk (w.setCell p u) g t cs:=(Yl w p u g hp).trans h
theorem Blk.below {B:Nat}(h:Blk w g t cs) (hb:Below B w w') (hg:g<B):Blk w' g t cs:=(hb.block g hg).trans h
end
def Row (w:World) (g:Nat) (t:TypeId) (l:List Nat):Prop:=Blk w g t (l.map u32).toArray
section
variable {w w':World}{g:Nat}{t:TypeId}{l:List Nat}
theorem Row.cell (h:Row w g t l) {i x:Nat}(hi:l[i]? = some x):w.cell? ⟨g,i,none⟩=some (.int .u32 (x:Int)):=by
 rw [Blk.cell h i];simp [hi,u32]
theorem Row.set_ (h:Row w g t l) (i x:Nat):Row (w.setCell ⟨g,i,none⟩ (.int .u32 (x:Int))) g t (l.set i x):=by
 have:=Blk.set_ h i (u32 x);unfold Row;rw [show (List.map u32 (l.set i x)).toArray=(l.map u32).toArray.setIfInBounds i (u32 x) from by simp [List.map_set]];exact this
theorem Row.sl (h:Row w g t l) (hl:zAV l) {n:Nat}(hn:l.length=n) (hm:n<=9223372036854775807):SL w (some ⟨g,0,none⟩) n n l:=
 ⟨hn,Ya _,hm,hl,fun _=>⟨_,_,rfl,Blk.lt h,fun j x hx=>by rw [Nat.zero_add];exact h.cell hx⟩⟩
end
def Own (w:World) (base:Nat) (t:TypeId) (v:Value) (l:List Nat):Prop:=w.ownsRow base t 1 v l.length (l.map u32)
section
variable {w w':World}{base:Nat}{t:TypeId}{v:Value}{l:List Nat}
theorem Own.sl (h:Own w base t v l) (hl:zAV l):∃A c,v=.slice A l.length c/\SL w A l.length c l/\zAn base A l.length:=by
 rcases h.2 with ⟨rfl,h0⟩ | ⟨g,cap,cur,rfl,hb,hh,hn,hc,hs,hx⟩
 ·have:l=[]:=List.eq_nil_of_length_eq_zero h0
  subst this;exact ⟨none,0,rfl,SL.nil _,zAn.zero⟩
 ·refine ⟨_,_,rfl,⟨rfl,hn,by simpa [maxLen] using hc,hl,fun _=>⟨_,_,rfl,Blk.lt hh,fun j x hx'=>?_⟩⟩,fun _=>⟨_,rfl,hb⟩⟩
  rw [Nat.zero_add,Blk.cell hh j];have hj:j<l.length:=by
   rcases Xj j l.length with h' | h'
   ·exact h'
   ·rw [Yy h'] at hx';cases hx'
  have e:(cur.toList.take (l.length*1))[j]? = (l.map u32)[j]?:=by rw [hx]
  rw [Xf (by omega)] at e;rw [<- Array.getElem?_toList,e];simp [hx',u32]
theorem Own.alloc (h:Own w base t v l) (o:Obj):Own (w.alloc o) base t v l:=World.ownsRow.alloc h o
theorem Own.lt (h:Own w base t v l):∀g,v.ownBlock=some g->g<w.heap.size/\base<=g:=by
 intro g hg;rcases h.2 with ⟨rfl,_⟩ | ⟨g',cap,cur,rfl,hb',hh,_⟩
 ·cases hg
 ·injection hg with hg
  subst hg;exact ⟨Blk.lt hh,hb'⟩
theorem Own.row {g:Nat}(h:Row w g t l) (hb:base<=g) (hm:l.length<=9223372036854775807):Own w base t (.slice (some ⟨g,0,none⟩) l.length l.length) l:=
 ⟨by simp,.inr ⟨g,l.length,_,rfl,hb,h,Ya _,by simpa [maxLen] using hm,by simp,by rw [Nat.mul_one,Xd (by simp)]⟩⟩
end
section
variable {P:Program}
theorem zAx {w:World}{ops:Array Oper}{rest:List Oper}{o:Oper}{a:Act}{Q:Exit->Act->World->Prop}(hgd:o.guard=none) (s x:Operand) (t:TypeId)
  (ho:o.op=.call { callee:=.builtin .append,args:=#[s,x],argTypes:=#[t,t] })
  (e:TypeId) (hinfo:(P.info? e).map (fun i=>(i.zero,i.size,i.bytes))=some (some (.int .u32 0),1,4)) (ht:P.underlying t=some (.slice e))
  (base:Nat) (v:Value) (l:List Nat) (hs:a.eval s=v) (hown:Own w base e v l)
  (A:Option Addr) (m c:Nat) (news:List Nat) (hx:a.eval x=.slice A m c) (hr:SL w A m c news) (hlen:l.length+m<=1099511627776) (hbase:base<=w.heap.size)
  (h:∀v' w',Own w' base e v' (l++news)->Below base w w'->wpList P ops Q rest (a.put o.dst v') w'):wpList P ops Q (o::rest) a w:=by
 obtain ⟨i,hi,hz,hsize,hby⟩:=info_parts hinfo;have fin:∀v' w',w'.ownsRow base e 1 v' (l.length+m) (l.map u32++news.map u32)->w.grownBy w' v.ownBlock->wpList P ops Q rest (a.put o.dst v') w':=by
  intro v' w' h1 h2;refine h v' w' ?_ ((Yp _ _).grown h2 hbase (fun k hk=>(hown.lt k hk).2));unfold Own;rw [Yu,hr.len,List.map_append];exact h1
 rcases A with _ | ad
 ·have hm:m=0:=by
   rcases Xm m with h0 | h0
   ·exact h0
   ·obtain ⟨_,_,h,_⟩:=hr.at_ h0
    cases h
  subst hm;have hn:news=[]:=hr.empty rfl;subst hn;refine wpList_plain hgd fun K hK=>?_
  have hrun:(Builtin.append_ #[t,t] o.type #[v,.slice none 0 c]).run P w=.ok v w:=by
   rcases hown.2 with ⟨rfl,_⟩ | ⟨g,cap,cur,rfl,_,_,hnc,_⟩
   ·simp [Builtin.append_,run_underlying ht,sizeOf,typeInfo,hi,Builtin.lenOf,Builtin.firstCells]
   ·simp [Builtin.append_,run_underlying ht,sizeOf,typeInfo,hi,Builtin.lenOf,Builtin.firstCells,hnc,storeCells]
  unfold Oper.wp execOp;simp only [ho,resolve,invoke,builtin,Sem.run_bind,Sem.run_pure,Result.andThen_ok,List.map_toArray,List.map_cons,List.map_nil,hs,hx,hrun];exact hK _ _ (fin v w (by unfold Own at hown;simpa using hown) (World.grownBy.refl w _))
 ·have hcells:∀j u,(news.map u32)[j]? = some u->w.cell? (ad.add j)=some u:=by
   intro j u hu;rw [List.getElem?_map] at hu;cases hx':news[j]? with
   | none=>rw [hx'] at hu;cases hu
   | some y=>
    rw [hx'] at hu;have hj:0<m:=by
     rw [<- hr.len];rcases Xj j news.length with h' | h'
     ·omega
     ·rw [Yy h'] at hx';cases hx'
    obtain ⟨b',off',e',_,hc⟩:=hr.at_ hj;injection e' with e'
    subst e';rw [show (Addr.add ⟨b',off',none⟩ j)=⟨b',off' + j,none⟩ from by unfold Addr.add;split <;> simp [*],hc j y hx']
    simpa [u32] using hu
  exact wpList_append_own _ hgd s x t ho base e i (.int .u32 0) 1 4 ht hi hz hsize hby rfl (by omega) v l.length (l.map u32) hs hown ad m c (news.map u32) hx (by simp [hr.len]) hcells
   (by intro u hu;obtain ⟨y,_,rfl⟩:=List.mem_map.1 hu;rfl) (by simp only [maxLen];omega) (by omega) hbase (fun v' w' h1 h2 _=>fin v' w' h1 h2)
end
theorem zIs (n:Nat):madeCells (Value.int .u32 0).cells (n*1)=((List.replicate n 0).map u32).toArray:=by
 apply Array.ext_getElem?
 intro i;simp only [madeCells,Nat.mul_one,List.map_replicate,List.getElem?_toArray,Array.getElem?_map,Value.cells];by_cases h:i<n
 ·simp [h,u32,Nat.mod_one]
 ·simp [h]
section
variable {P:Program}{w:World}{ops:Array Oper}{rest:List Oper}{o:Oper}{a:Act}{Q:Exit->Act->World->Prop}
theorem zCl (hg:o.guard=none) (l c:Operand) (t e:TypeId) (hop:o.op=Op.makeSlice t l c)
  (hinfo:(P.info? e).map (fun i=>(i.zero,i.size,i.bytes))=some (some (.int .u32 0),1,4)) (ht:P.underlying t=some (.slice e))
  (kl kc:IntKind) (L C:Int) (n m:Nat) (hl:a.eval l=.int kl L) (hc:a.eval c=.int kc C) (hL:L=(n:Int)) (hC:C=(m:Int)) (hnm:n<=m) (hm:m<=1099511627776)
  (hK:∀w1,Row w1 w.heap.size e (List.replicate m 0)->Below w.heap.size w w1->w1.heap.size=w.heap.size+1->wpList P ops Q rest (a.put o.dst (.slice (some ⟨w.heap.size,0,none⟩) n m)) w1) :
  wpList P ops Q (o::rest) a w:=by
 obtain ⟨i,hi,hz,hsize,hby⟩:=info_parts hinfo;refine wpList_plain hg fun K hK'=>?_
 have hrun:=run_make (P:=P) w t e i (.int .u32 0) ht hi hz kl kc (n:Int) (m:Int) (by omega) (by omega) (by rw [hby];omega) (by omega);simp only [Int.toNat_natCast,hsize,zIs] at hrun;unfold Oper.wp execOp;simp only [hop,hl,hc,hL,hC,Sem.run_bind,Sem.run_pure,Result.andThen_ok,hrun];refine hK' _ _ (hK _ (Blk.new _ _ _) ((Yp _ _).alloc (Ya _) _) (by simp))
end
theorem Own.made {w:World}{g base:Nat}{t:TypeId}{n m:Nat}(h:Row w g t (List.replicate m 0)) (hb:base<=g) (hnm:n<=m) (hm:m<=9223372036854775807) :
  Own w base t (.slice (some ⟨g,0,none⟩) n m) (List.replicate n 0):=by
 refine ⟨by simp,.inr ⟨g,m,_,?_,hb,h,?_,by simpa [maxLen] using hm,by simp,?_⟩⟩
 ·rw [List.length_replicate]
 ·rw [List.length_replicate];exact hnm
 ·rw [List.length_replicate,Nat.mul_one]
  simp [List.take_replicate,Nat.min_eq_left hnm]
theorem Blk.newAt (w:World) (t:TypeId) (cs:Array Value) {g:Nat}(hg:g=w.heap.size):Blk (w.alloc (.cells cs t)) g t cs:=by
 subst hg;exact Blk.new w t cs
end Go.Proofs.YtngjhigieajkmaaGreatDoor
namespace Go.Proofs
open Go.Shelf
def Tryz.lays128_ren:Go.Shelf.Ren:=⟨fun | 128=>200 | n=>n,fun | 51=>113 | 3=>3 | 4=>4 | 46=>151 | 5=>5 | 9=>9 | n=>n,fun | n=>n⟩
theorem Tryz.lays128:Go.Proofs.Lays.n128 Tryz.prog Tryz.lays128_ren:={
 mixed:=by kernel_rfl
 f128:=Tryz.func200.trans (congrArg some (by kernel_rfl))
 t3:=Tryz.underlying3
 a3:=Tryz.isAgg3
 z3:=Tryz.sizeOf3
 v3:=Tryz.zeroValue3
 t4:=Tryz.underlying4
 a4:=Tryz.isAgg4
 z4:=Tryz.sizeOf4
 v4:=Tryz.zeroValue4
 t5:=Tryz.underlying5
 a5:=Tryz.isAgg5
 z5:=Tryz.sizeOf5
 v5:=Tryz.zeroValue5
 t9:=Tryz.underlying9
 a9:=Tryz.isAgg9
 z9:=Tryz.sizeOf9
 v9:=Tryz.zeroValue9
 t46:=Tryz.underlying151
 a46:=Tryz.isAgg151
 z46:=Tryz.sizeOf151
 v46:=Tryz.zeroValue151
 t51:=Tryz.underlying113
 a51:=Tryz.isAgg113
 z51:=Tryz.sizeOf113
 v51:=Tryz.zeroValue113 }
theorem Tryz.bits_Len32 (x:Int) (w:World) (h0:0<=x) (h1:x<=4294967295) :
  Calls Tryz.prog 200 #[.int .u32 x] w fun e w'=>e=.returned (.int .i64 (Lib.bitLen x.toNat))/\w' = w:=Any.bits_Len32 Tryz.lays128 x w h0 h1
def Tryz.lays125_ren:Go.Shelf.Ren:=⟨fun | 125=>297 | 128=>200 | 129=>347 | n=>n,fun | 46=>151 | 3=>3 | 51=>113 | 53=>104 | 4=>4 | 5=>5 | 9=>9 | n=>n,fun | n=>n⟩
theorem Tryz.lays125:Go.Proofs.Lays.n125 Tryz.prog Tryz.lays125_ren:={
 mixed:=by kernel_rfl
 f125:=Tryz.func297.trans (congrArg some (by kernel_rfl))
 f128:=Tryz.func200.trans (congrArg some (by kernel_rfl))
 f129:=Tryz.func347.trans (congrArg some (by kernel_rfl))
 t3:=Tryz.underlying3
 a3:=Tryz.isAgg3
 z3:=Tryz.sizeOf3
 v3:=Tryz.zeroValue3
 t4:=Tryz.underlying4
 a4:=Tryz.isAgg4
 z4:=Tryz.sizeOf4
 v4:=Tryz.zeroValue4
 t5:=Tryz.underlying5
 a5:=Tryz.isAgg5
 z5:=Tryz.sizeOf5
 v5:=Tryz.zeroValue5
 t9:=Tryz.underlying9
 a9:=Tryz.isAgg9
 z9:=Tryz.sizeOf9
 v9:=Tryz.zeroValue9
 t46:=Tryz.underlying151
 a46:=Tryz.isAgg151
 z46:=Tryz.sizeOf151
 v46:=Tryz.zeroValue151
 t51:=Tryz.underlying113
 a51:=Tryz.isAgg113
 z51:=Tryz.sizeOf113
 v51:=Tryz.zeroValue113
 t53:=Tryz.underlying104
 a53:=Tryz.isAgg104
 z53:=Tryz.sizeOf104
 v53:=Tryz.zeroValue104 }
theorem Tryz.bits_Len (x:Int) (w:World) (h0:0<=x) (h1:x<=18446744073709551615) :
  Calls Tryz.prog 297 #[.int .u64 x] w fun e w'=>e=.returned (.int .i64 (Lib.bitLen x.toNat))/\w' = w:=Any.bits_Len Tryz.lays125 x w h0 h1
def Tryz.lays190_ren:Go.Shelf.Ren:=⟨fun | 190=>224 | 125=>297 | 258=>296 | 128=>200 | 129=>347 | 302=>338 | 303=>339 | 304=>340 | 305=>341 | 306=>342 | 307=>343 | 308=>344 | 309=>345 | 310=>346 | 333=>372 | 329=>373 | 330=>374 | 334=>375 | 335=>376 | 336=>377 | 344=>402 | n=>n,fun | 31=>54 | 9=>9 | 3=>3 | 46=>151 | 0=>0 | 51=>113 | 53=>104 | 4=>4 | 183=>385 | 182=>384 | 131=>216 | 5=>5 | 218=>406 | 222=>303 | 228=>424 | 229=>153 | n=>n,fun | n=>n⟩
theorem Tryz.lays190:Go.Proofs.Lays.n190 Tryz.prog Tryz.lays190_ren:={
 mixed:=by kernel_rfl
 f125:=Tryz.func297.trans (congrArg some (by kernel_rfl))
 f128:=Tryz.func200.trans (congrArg some (by kernel_rfl))
 f129:=Tryz.func347.trans (congrArg some (by kernel_rfl))
 f190:=Tryz.func224.trans (congrArg some (by kernel_rfl))
 f258:=Tryz.func296.trans (congrArg some (by kernel_rfl))
 f302:=Tryz.func338.trans (congrArg some (by kernel_rfl))
 f303:=Tryz.func339.trans (congrArg some (by kernel_rfl))
 f304:=Tryz.func340.trans (congrArg some (by kernel_rfl))
 f305:=Tryz.func341.trans (congrArg some (by kernel_rfl))
 f306:=Tryz.func342.trans (congrArg some (by kernel_rfl))
 f307:=Tryz.func343.trans (congrArg some (by kernel_rfl))
 f308:=Tryz.func344.trans (congrArg some (by kernel_rfl))
 f309:=Tryz.func345.trans (congrArg some (by kernel_rfl))
 f310:=Tryz.func346.trans (congrArg some (by kernel_rfl))
 f329:=Tryz.func373.trans (congrArg some (by kernel_rfl))
 f330:=Tryz.func374.trans (congrArg some (by kernel_rfl))
 f333:=Tryz.func372.trans (congrArg some (by kernel_rfl))
 f334:=Tryz.func375.trans (congrArg some (by kernel_rfl))
 f335:=Tryz.func376.trans (congrArg some (by kernel_rfl))
 f336:=Tryz.func377.trans (congrArg some (by kernel_rfl))
 f344:=Tryz.func402.trans (congrArg some (by kernel_rfl))
 t0:=Tryz.underlying0
 a0:=Tryz.isAgg0
 z0:=Tryz.sizeOf0
 v0:=Tryz.zeroValue0
 t3:=Tryz.underlying3
 a3:=Tryz.isAgg3
 z3:=Tryz.sizeOf3
 v3:=Tryz.zeroValue3
 t4:=Tryz.underlying4
 a4:=Tryz.isAgg4
 z4:=Tryz.sizeOf4
 v4:=Tryz.zeroValue4
 t5:=Tryz.underlying5
 a5:=Tryz.isAgg5
 z5:=Tryz.sizeOf5
 v5:=Tryz.zeroValue5
 t9:=Tryz.underlying9
 a9:=Tryz.isAgg9
 z9:=Tryz.sizeOf9
 v9:=Tryz.zeroValue9
 t31:=Tryz.underlying54
 a31:=Tryz.isAgg54
 z31:=Tryz.sizeOf54
 v31:=Tryz.zeroValue54
 t46:=Tryz.underlying151
 a46:=Tryz.isAgg151
 z46:=Tryz.sizeOf151
 v46:=Tryz.zeroValue151
 t51:=Tryz.underlying113
 a51:=Tryz.isAgg113
 z51:=Tryz.sizeOf113
 v51:=Tryz.zeroValue113
 t53:=Tryz.underlying104
 a53:=Tryz.isAgg104
 z53:=Tryz.sizeOf104
 v53:=Tryz.zeroValue104
 t131:=Tryz.underlying216
 a131:=Tryz.isAgg216
 z131:=Tryz.sizeOf216
 v131:=Tryz.zeroValue216
 t182:=Tryz.underlying384
 a182:=Tryz.isAgg384
 z182:=Tryz.sizeOf384
 v182:=Tryz.zeroValue384
 t183:=Tryz.underlying385
 a183:=Tryz.isAgg385
 z183:=Tryz.sizeOf385
 v183:=Tryz.zeroValue385
 t218:=Tryz.underlying406
 a218:=Tryz.isAgg406
 z218:=Tryz.sizeOf406
 v218:=Tryz.zeroValue406
 t222:=Tryz.underlying303
 a222:=Tryz.isAgg303
 z222:=Tryz.sizeOf303
 v222:=Tryz.zeroValue303
 t228:=Tryz.underlying424
 a228:=Tryz.isAgg424
 z228:=Tryz.sizeOf424
 v228:=Tryz.zeroValue424
 t229:=Tryz.underlying153
 a229:=Tryz.isAgg153
 z229:=Tryz.sizeOf153
 v229:=Tryz.zeroValue153 }
open Go.Sort Go.RowKit in
theorem Tryz.slices_Sort_string (blk off cap:Nat) (ss:List (List UInt8)) (w:World) (hH:Holds encStr w blk off ss.toArray) (hblk:blk<w.heap.size) (hsz:ss.length<4611686018427387904) :
  Calls Tryz.prog 224 #[.slice (some ⟨blk,off,none⟩) ss.length cap] w fun e w'=>
   e=.returned (.tuple #[])/\∃n os,w' = grow (putRow encStr (Sort.ahead w n) blk off (ss.mergeSort fun x y=>decide (x<=y)).toArray) os:=Any.slices_Sort_string Tryz.lays190 blk off cap ss w hH hblk hsz
def Tryz.lays194_ren:Go.Shelf.Ren:=⟨fun | 194=>225 | n=>n,fun | 31=>54 | 9=>9 | 3=>3 | 4=>4 | 0=>0 | n=>n,fun | n=>n⟩
theorem Tryz.lays194:Go.Proofs.Lays.n194 Tryz.prog Tryz.lays194_ren:={
 mixed:=by kernel_rfl
 f194:=Tryz.func225.trans (congrArg some (by kernel_rfl))
 t0:=Tryz.underlying0
 a0:=Tryz.isAgg0
 z0:=Tryz.sizeOf0
 v0:=Tryz.zeroValue0
 t3:=Tryz.underlying3
 a3:=Tryz.isAgg3
 z3:=Tryz.sizeOf3
 v3:=Tryz.zeroValue3
 t4:=Tryz.underlying4
 a4:=Tryz.isAgg4
 z4:=Tryz.sizeOf4
 v4:=Tryz.zeroValue4
 t9:=Tryz.underlying9
 a9:=Tryz.isAgg9
 z9:=Tryz.sizeOf9
 v9:=Tryz.zeroValue9
 t31:=Tryz.underlying54
 a31:=Tryz.isAgg54
 z31:=Tryz.sizeOf54
 v31:=Tryz.zeroValue54 }
open Go.RowKit Go.Lib Go.Sort in
theorem Tryz.slices_Compact_string (blk off cap:Nat) (zs:List (List UInt8)) (w:World) (hH:Holds encStr w blk off zs.toArray) (hsz:zs.length<=9223372036854775807) (hcap:zs.length<=cap) :
  Calls Tryz.prog 225 #[.slice (some ⟨blk,off,none⟩) zs.length cap] w fun e w'=>e=.returned (.slice (some ⟨blk,off,none⟩) (Lib.compact zs).length cap)/\∃q,w' = putRow encStr (Sort.ahead w q) blk off (Lib.compact zs++List.replicate (zs.length - (Lib.compact zs).length) []).toArray:=Any.slices_Compact_string Tryz.lays194 blk off cap zs w hH hsz hcap
open Go.RowKit Go.Lib Go.Sort in
theorem Tryz.slices_Compact_string_empty (a:Option Addr) (cap:Nat) (w:World) :
  Calls Tryz.prog 225 #[.slice a 0 cap] w fun e w'=>e=.returned (.slice a 0 cap)/\w' = w:=Any.slices_Compact_string_empty Tryz.lays194 a cap w
def Tryz.lays7n28_ren:Go.Shelf.Ren:=⟨fun | 28=>287 | n=>n,fun | 27=>113 | 3=>3 | 4=>4 | 25=>151 | 53=>374 | 0=>0 | 5=>5 | n=>n,fun | 0=>1 | n=>n⟩
theorem Tryz.lays7n28:Go.Proofs.Lays7.n28 Tryz.prog Tryz.lays7n28_ren:={
 mixed:=by kernel_rfl
 f28:=Tryz.func287.trans (congrArg some (by kernel_rfl))
 t0:=Tryz.underlying0
 a0:=Tryz.isAgg0
 z0:=Tryz.sizeOf0
 v0:=Tryz.zeroValue0
 i0:=by kernel_rfl
 t3:=Tryz.underlying3
 a3:=Tryz.isAgg3
 z3:=Tryz.sizeOf3
 v3:=Tryz.zeroValue3
 i3:=by kernel_rfl
 t4:=Tryz.underlying4
 a4:=Tryz.isAgg4
 z4:=Tryz.sizeOf4
 v4:=Tryz.zeroValue4
 i4:=by kernel_rfl
 t5:=Tryz.underlying5
 a5:=Tryz.isAgg5
 z5:=Tryz.sizeOf5
 v5:=Tryz.zeroValue5
 i5:=by kernel_rfl
 t25:=Tryz.underlying151
 a25:=Tryz.isAgg151
 z25:=Tryz.sizeOf151
 v25:=Tryz.zeroValue151
 i25:=by kernel_rfl
 t27:=Tryz.underlying113
 a27:=Tryz.isAgg113
 z27:=Tryz.sizeOf113
 v27:=Tryz.zeroValue113
 i27:=by kernel_rfl
 t53:=Tryz.underlying374
 a53:=Tryz.isAgg374
 z53:=Tryz.sizeOf374
 v53:=Tryz.zeroValue374
 i53:=by kernel_rfl
 g0:=by kernel_rfl }
open Go.RowKit in
theorem Tryz.bits_TrailingZeros32 (x:Nat) (hx:x<4294967296) (w:World) (hT:x≠0->TabAt 1 Lib.deBruijn32tab w) :
  Calls Tryz.prog 287 #[.int .u32 x] w fun e w'=>e=.returned (.int .i64 (Lib.ctz 32 x))/\w' = w:=Any7.bits_TrailingZeros32 Tryz.lays7n28 x hx w hT
def Tryz.lays7n29_ren:Go.Shelf.Ren:=⟨fun | 29=>92 | n=>n,fun | 22=>104 | 3=>3 | 4=>4 | 25=>151 | 54=>229 | 0=>0 | 5=>5 | n=>n,fun | 1=>0 | n=>n⟩
theorem Tryz.lays7n29:Go.Proofs.Lays7.n29 Tryz.prog Tryz.lays7n29_ren:={
 mixed:=by kernel_rfl
 f29:=Tryz.func92.trans (congrArg some (by kernel_rfl))
 t0:=Tryz.underlying0
 a0:=Tryz.isAgg0
 z0:=Tryz.sizeOf0
 v0:=Tryz.zeroValue0
 i0:=by kernel_rfl
 t3:=Tryz.underlying3
 a3:=Tryz.isAgg3
 z3:=Tryz.sizeOf3
 v3:=Tryz.zeroValue3
 i3:=by kernel_rfl
 t4:=Tryz.underlying4
 a4:=Tryz.isAgg4
 z4:=Tryz.sizeOf4
 v4:=Tryz.zeroValue4
 i4:=by kernel_rfl
 t5:=Tryz.underlying5
 a5:=Tryz.isAgg5
 z5:=Tryz.sizeOf5
 v5:=Tryz.zeroValue5
 i5:=by kernel_rfl
 t22:=Tryz.underlying104
 a22:=Tryz.isAgg104
 z22:=Tryz.sizeOf104
 v22:=Tryz.zeroValue104
 i22:=by kernel_rfl
 t25:=Tryz.underlying151
 a25:=Tryz.isAgg151
 z25:=Tryz.sizeOf151
 v25:=Tryz.zeroValue151
 i25:=by kernel_rfl
 t54:=Tryz.underlying229
 a54:=Tryz.isAgg229
 z54:=Tryz.sizeOf229
 g1:=by kernel_rfl }
open Go.RowKit in
theorem Tryz.bits_TrailingZeros64 (x:Nat) (hx:x<18446744073709551616) (w:World) (hT:x≠0->TabAt 0 Lib.deBruijn64tab w) :
  Calls Tryz.prog 92 #[.int .u64 x] w fun e w'=>e=.returned (.int .i64 (Lib.ctz 64 x))/\w' = w:=Any7.bits_TrailingZeros64 Tryz.lays7n29 x hx w hT
end Go.Proofs
namespace Go.Proofs.YtngjhigieajkmaaGreatDoor
open Go.RowKit Pl
theorem zJB {l:List Nat}{n k:Nat}(hz:∀j,k<=j->j<n->l[j]? = some 0) (hx:l[k - 1]? = some 0):∀j,k - 1<=j->j<n->l[j]? = some 0:=by
 intro j h1 h2;by_cases hj:k<=j
 ·exact hz j hj h2
 ·obtain rfl:j=k - 1:=by omega
  exact hx
theorem zJA {w:World}{A:Option Addr}{n c k:Nat}{l:List Nat}(h:SL w A n c l) (hk:k<=n) (hz:∀j,k<=j->j<n->l[j]? = some 0) (he:k=0\/l[k - 1]? ≠ some 0) :
  Ending.returned (.slice A k c)=.returned (.slice A (zAa (val l)).length c):=by
 have hl:=h.len;rw [<- zHK l h.lt k (by omega) (fun j h1 h2=>hz j h1 (by omega)) he,Yr,Nat.min_eq_left (by omega)]
theorem zBU (A:Option Addr) (n c:Nat) (l:List Nat) (w:World) (h:SL w A n c l) :
  Calls Tryz.prog 142 #[.slice A n c] w fun e w'=>e=.returned (.slice A (zAa (val l)).length c)/\w=w':=by
 have hcap:=h.cap;have hmax:=h.max;have hlen:=Zh h.len;go_enter Tryz.func142,Tryz.ntmps142
 go_wp2
 go_loop [3] (fun i=>∃k:Nat,k<=n/\i=.int .i64 k/\∀j,k<=j->j<n->l[j]? = some 0) (fun i=>(intOf i).toNat)
 case atStart=>exact ⟨n,Ya _,rfl,fun j h1 h2=>absurd h2 (by omega)⟩
 case round=>
  obtain ⟨k,hk,rfl,hz⟩:=hrel;have HZ:=Zh hz;clear hz;by_cases h0:0<k
  ·obtain ⟨b,off,x,rfl,hb,hx,hcell,hlt⟩:=h.get (k:=k - 1) (by omega)
   have HX:=Zh hx;clear hx;by_cases hx0:x=0
   ·subst hx0
    go_wp2
    go_round
    case rel=>exact ⟨k - 1,by omega,by go_num,zJB HZ.out HX.out⟩
    case measure=>simp [intOf];omega
   ·have hx1:((x:Int) == 0)=false:=by simp;omega
    go_wp2
    go_ret;exact ⟨zJA h hk HZ.out (.inr (by rw [HX.out];simp;omega)),rfl⟩
  ·obtain rfl:k=0:=by omega
   go_wp2
   go_ret;exact ⟨zJA h hk HZ.out (.inl rfl),rfl⟩
theorem zHL (A:Option Addr) (n c:Nat) (l:List Nat) (w:World) (h:SL w A n c l) :
  Calls Tryz.prog 213 #[.slice A n c] w fun e w'=>e=.returned (.slice A (zAa (val l)).length c)/\w=w':=by
 have hcap:=h.cap;have hmax:=h.max;have hlen:=Zh h.len;go_enter Tryz.func213,Tryz.ntmps213
 go_wp2
 go_loop [3] (fun i=>∃k:Nat,k<=n/\i=.int .i64 k/\∀j,k<=j->j<n->l[j]? = some 0) (fun i=>(intOf i).toNat)
 case atStart=>exact ⟨n,Ya _,rfl,fun j h1 h2=>absurd h2 (by omega)⟩
 case round=>
  obtain ⟨k,hk,rfl,hz⟩:=hrel;have HZ:=Zh hz;clear hz;by_cases h0:0<k
  ·obtain ⟨b,off,x,rfl,hb,hx,hcell,hlt⟩:=h.get (k:=k - 1) (by omega)
   have HX:=Zh hx;clear hx;by_cases hx0:x=0
   ·subst hx0
    go_wp2
    go_round
    case rel=>exact ⟨k - 1,by omega,by go_num,zJB HZ.out HX.out⟩
    case measure=>simp [intOf];omega
   ·have hx1:((x:Int) == 0)=false:=by simp;omega
    go_wp2
    go_ret;exact ⟨zJA h hk HZ.out (.inr (by rw [HX.out];simp;omega)),rfl⟩
  ·obtain rfl:k=0:=by omega
   go_wp2
   go_ret;exact ⟨zJA h hk HZ.out (.inl rfl),rfl⟩
theorem zGB (A:Option Addr) (n c:Nat) (w:World) (hcap:n<=c) (_hmax:c<=9223372036854775807) :
  Calls Tryz.prog 216 #[.slice A n c] w fun e w'=>e=.returned (.slice A n n)/\w=w':=by
 go_enter Tryz.func216,Tryz.ntmps216
 go_wp2
 go_ret;exact ⟨rfl,rfl⟩
def zNP (e:Int):Bool:=decide (-32768<=e) && decide (e<=32768)
theorem zFu (e:Int) (w:World) :
  Calls Tryz.prog 151 #[.int .i64 e] w fun r w'=>r=.returned (.bool (zNP e))/\w=w':=by
 by_cases h1:-32768<=e
 ·by_cases h2:e<=32768
  ·go_enter Tryz.func151,Tryz.ntmps151
   go_wp2
   go_ret;exact ⟨by simp [zNP,h1,h2],rfl⟩
  ·go_enter Tryz.func151,Tryz.ntmps151
   go_wp2
   go_ret;exact ⟨by simp [zNP,h2],rfl⟩
 ·go_enter Tryz.func151,Tryz.ntmps151
  go_wp2
  go_ret;exact ⟨by simp [zNP];omega,rfl⟩
theorem zOQ (x:Nat) (w:World) (h:x<4294967296) (h0:0<x) :
  Calls Tryz.prog 200 #[.int .u32 (x:Int)] w fun e w'=>e=.returned (.int .i64 (zAT x))/\w=w':=by
 refine (Tryz.bits_Len32 x w (by omega) (by omega)).mono ?_;rintro e w' ⟨rfl,rfl⟩
 refine ⟨?_,rfl⟩;obtain ⟨h1,h2,h3⟩:=Lib.bitLenAux_bounds 64 x (by omega) (by omega);have:zAT x=Lib.bitLen x:=by
  have:=zIR x (Lib.bitLen x - 1) h2 (by rw [show Lib.bitLen x - 1+1=Lib.bitLen x from Nat.sub_add_cancel h1];exact h3);rw [this];exact Nat.sub_add_cancel h1
 rw [this,Int.toNat_natCast]
theorem zLX (A:Option Addr) (n c:Nat) (l:List Nat) (w:World) (h:SL w A n c l) (hn:n<=100000000) :
  Calls Tryz.prog 141 #[.slice A n c] w fun e w'=>e=.returned (.int .i64 (zAT (val l)))/\w=w':=by
 have hT:=h.trim;have hlim:=zAl l h.lt;have hlen:=h.len;by_cases h0:(zAa (val l)).length=0
 ·have hv:val l=0:=by rw [<- zAH (val l),List.eq_nil_of_length_eq_zero h0];rfl
  go_enter Tryz.func141,Tryz.ntmps141
  go_wp2_with (go_at_call 142;refine (zBU A n c l _ h).mono ?_;rintro e w' ⟨rfl,rfl⟩)
  go_ret;exact ⟨by rw [hv];rfl,rfl⟩
 ·obtain ⟨k,hk⟩:∃k,(zAa (val l)).length=k+1:=⟨(zAa (val l)).length - 1,by omega⟩
  have hkn:k+1<=n:=by omega
  rw [hk] at hT;obtain ⟨b,off,x,rfl,hb,hx,hcell,hlt⟩:=hT.get (k:=k) (by omega);have hx0:0<x:=by
   rcases Xm x with rfl | hp
   ·exact absurd (by rw [List.getLast?_eq_getElem?,hk];exact hx) (zDC (val l))
   ·exact hp
  have hb1:=zDL x hx0;have hb2:=zBu x;have hb3:=zCS x hx0;have hfin:zAT (val l)=32*k+zAT x:=by
   have:=zLY (zAa (val l)) (zAk _) k x (zAT x - 1) hk hx hb1 (by rw [show zAT x - 1+1=zAT x from by omega];exact hb2);rw [zAH] at this;omega
  have hbl:zAT x<=32:=zBH x 32 hlt;have HK:=Zh hk;have HF:=Zh hfin;have HX:=Zh hx;clear hk hfin hx hb1 hb2 hT hlen hlim h0;go_enter Tryz.func141,Tryz.ntmps141
  go_wp2_with (first
   | (go_at_call 142;refine (zBU _ n c l _ h).mono ?_;rintro e w' ⟨rfl,rfl⟩;rw [HK.out])
   | (go_at_call 200;refine (zOQ x _ hlt hx0).mono ?_;rintro e w' ⟨rfl,rfl⟩))
  go_ret;exact ⟨by rw [HF.out];go_num,rfl⟩
theorem zCF (A:Option Addr) (n c:Nat) (l:List Nat) (w:World) (h:SL w A n c l) (hn:n<=100000000) :
  Calls Tryz.prog 76 #[.slice A n c] w fun e w'=>e=.returned (.int .i64 (zAT (val l)))/\w=w':=by
 go_enter Tryz.func76,Tryz.ntmps76
 go_wp2_with (go_at_call 141;refine (zLX A n c l _ h hn).mono ?_;rintro e w' ⟨rfl,rfl⟩)
 go_ret;exact ⟨rfl,rfl⟩
def zRw (b:Bool) (w:World) (e:Ending) (w':World):Prop:=∃r:Int,e=.returned (.int .i64 r)/\decide (0<=r)=b/\w=w'
def zMz (k:Nat) (F:Nat->Option Addr×Nat×Nat):Bool:=decide (∃j,j<k/\256<(F j).2.1)
theorem zJv (A:Option Addr) (n c:Nat) (w:World) :
  Calls Tryz.prog 276 #[.slice A n c] w fun e w'=>e=.returned (.bool (decide (256<n)))/\w=w':=by
 by_cases h:256<n
 ·go_enter Tryz.func276,Tryz.ntmps276
  go_wp2
  go_ret;exact ⟨by simp;omega,rfl⟩
 ·go_enter Tryz.func276,Tryz.ntmps276
  go_wp2
  go_ret;exact ⟨by simp;omega,rfl⟩
theorem zIk (g k:Nat) (F:Nat->Option Addr×Nat×Nat) (w:World) (hk:k<=1000) (hc:∀j,j<k->w.cell? ⟨g,j,none⟩=some (.slice (F j).1 (F j).2.1 (F j).2.2)) :
  Calls Tryz.prog 324 #[.slice (some ⟨g,0,none⟩) k k,.func (.func 276) #[] #[]] w (zRw (zMz k F) w):=by
 have HC:=Zh hc;clear hc;go_enter Tryz.func324,Tryz.ntmps324
 go_wp2_with fail
 go_loop [8] (fun i=>∃j:Nat,j<=k/\i=.int .i64 j/\Hid (∀m,m<j->(F m).2.1<=256)) (fun i=>k - (intOf i).toNat)
 case atStart=>exact ⟨0,Nat.zero_le _,rfl,fun m hm=>absurd hm (by omega)⟩
 case round=>
  obtain ⟨j,hj,rfl,HZ⟩:=hrel;by_cases hlt:j<k
  ·have hcell:=HC.out j hlt
   generalize hA:(F j).1=A at hcell;generalize hn:(F j).2.1=n at hcell;generalize hcc:(F j).2.2=c at hcell;have HN:=Zh hn;clear hA hn hcc;by_cases h256:256<n
   ·go_wp2_with (go_at_call 276;refine (zJv A n c _).mono ?_;rintro e w' ⟨rfl,rfl⟩)
    go_ret;refine ⟨_,rfl,?_,rfl⟩;rw [zMz,Yf (⟨j,hlt,by rw [HN.out];exact h256⟩:∃j,j<k/\256<(F j).2.1)];simp
   ·go_wp2_with (go_at_call 276;refine (zJv A n c _).mono ?_;rintro e w' ⟨rfl,rfl⟩)
    go_round
    case rel=>exact ⟨j+1,by omega,by go_num,fun m hm=>by
     by_cases hmj:m<j
     ·exact HZ.out m hmj
     ·obtain rfl:m=j:=by omega
      rw [HN.out];omega⟩
    case measure=>simp [intOf];omega
  ·go_wp2_with fail
   go_ret;refine ⟨_,rfl,?_,rfl⟩;have:¬ ∃j,j<k/\256<(F j).2.1:=by
    rintro ⟨m,h1,h2⟩
    have:=HZ.out m (by omega);omega
   rw [zMz,Ye this];simp
theorem zLy (g k:Nat) (F:Nat->Option Addr×Nat×Nat) (w:World) (hk:k<=1000) (hc:∀j,j<k->w.cell? ⟨g,j,none⟩=some (.slice (F j).1 (F j).2.1 (F j).2.2)) :
  Calls Tryz.prog 191 #[.slice (some ⟨g,0,none⟩) k k] w fun e w'=>e=.returned (.bool (zMz k F))/\w=w':=by
 have HC:=Zh hc;clear hc;go_enter Tryz.func191,Tryz.ntmps191
 go_wp2_with (first
  | (go_at_call 275;go_in)
  | (go_at_call 324;refine (zIk g k F _ hk HC.out).mono ?_;rintro e w' ⟨r,rfl,hr,rfl⟩))
 go_ret;exact ⟨rfl,rfl⟩
theorem zIq (g:Nat) (A:Option Addr) (n c:Nat) (w:World) (hc:w.cell? ⟨g,0,none⟩=some (.slice A n c)) :
  Calls Tryz.prog 191 #[.slice (some ⟨g,0,none⟩) 1 1] w fun e w'=>e=.returned (.bool (decide (256<n)))/\w=w':=by
 refine (zLy g 1 (fun _=>(A,n,c)) w (by omega) (fun j hj=>by
  obtain rfl:j=0:=by omega
  exact hc)).mono ?_
 rintro e w' ⟨rfl,rfl⟩
 refine ⟨?_,rfl⟩;rw [zMz]
 congr 2
 exact Xk.2 ⟨fun ⟨_,_,h⟩=>h,fun h=>⟨0,by omega,h⟩⟩
theorem zIr (g:Nat) (A B:Option Addr) (n c m d:Nat) (w:World) (hc:w.cell? ⟨g,0,none⟩=some (.slice A n c)) (hd:w.cell? ⟨g,1,none⟩=some (.slice B m d)) :
  Calls Tryz.prog 191 #[.slice (some ⟨g,0,none⟩) 2 2] w fun e w'=>e=.returned (.bool (decide (256<n\/256<m)))/\w=w':=by
 refine (zLy g 2 (fun j=>if j=0 then (A,n,c) else (B,m,d)) w (by omega) (fun j hj=>by
  by_cases h0:j=0
  ·subst h0;exact hc
  ·obtain rfl:j=1:=by omega
   exact hd)).mono ?_
 rintro e w' ⟨rfl,rfl⟩
 refine ⟨?_,rfl⟩;rw [zMz]
 congr 2
 refine Xk.2 ⟨?_,?_⟩
 ·rintro ⟨j,hj,h⟩
  by_cases h0:j=0
  ·subst h0;exact .inl h
  ·rw [if_neg h0] at h;exact .inr h
 ·rintro (h | h)
  ·exact ⟨0,by omega,h⟩
  ·exact ⟨1,by omega,h⟩
theorem zGi (A:Option Addr) (n c:Nat) (l:List Nat) (w:World) (h:SL w A n c l) (hs:(zAa (val l)).length<=256) :
  Calls Tryz.prog 192 #[.slice A n c] w fun e w'=>e=.returned (.tuple #[.slice A (zAa (val l)).length (zAa (val l)).length,.int .i64 0])/\Below w.heap.size w w':=by
 have hT:=h.trim;have h1:=hT.cap;have h2:=hT.max;generalize hk:(zAa (val l)).length=k at *;have HK:=Zh hk;clear hk;go_enter Tryz.func192,Tryz.ntmps192
 go_wp2_with (first
   | (go_at_call 142;refine (zBU A n c l _ h).mono ?_;rintro e w' ⟨rfl,rfl⟩;rw [HK.out])
   | (go_at_call 191;refine (zIq _ A k c _ (by simp)).mono ?_;rintro e w' ⟨rfl,rfl⟩)
   | (go_at_call 216;refine (zGB A k c _ h1 h2).mono ?_;rintro e w' ⟨rfl,rfl⟩))
 go_ret2
 exact ⟨rfl,(Yp _ _).alloc (Ya _) _⟩
theorem zAw:(Tryz.prog.info? 113).map (fun i=>(i.zero,i.size,i.bytes))=some (some (.int .u32 0),1,4):=by kernel_rfl
def zPh (l:List Nat) (w:World) (e:Ending) (w':World):Prop:=∃A n c,e=.returned (.slice A n c)/\SL w' A n c l/\zAn w.heap.size A n/\Below w.heap.size w w'
theorem zDj (A:Option Addr) (n c:Nat) (l:List Nat) (w:World) (h:SL w A n c l) (hn:n<=1099511627776) :
  Calls Tryz.prog 105 #[.slice A n c] w (zPh l w):=by
 rcases A with _ | ad
 ·have h0:n=0:=by
   rcases Xm n with h0 | h0
   ·exact h0
   ·obtain ⟨_,_,h,_⟩:=h.at_ h0
    cases h
  have hl:=h.empty h0;subst h0;subst hl;have hnil:=Lib.run_eql_slice_nil (P:=Tryz.prog) w 28 113 none 0 c 0 0 Tryz.underlying28;go_enter Tryz.func105,Tryz.ntmps105
  go_wp2
  go_ret;exact ⟨_,_,_,rfl,SL.nil _,zAn.zero,Yp _ _⟩
 ·have hnil:=Lib.run_eql_slice_nil (P:=Tryz.prog) w 28 113 (some ad) n c 0 0 Tryz.underlying28
  have hw:=(h.alloc (.cells #[] 113));go_enter Tryz.func105,Tryz.ntmps105
  go_wp2_with (at_builtin;refine zAx rfl (.tmp 5) (.tmp 6) _ rfl 113 zAw Tryz.underlying28 w.heap.size _ [] rfl (Own.row (Blk.new _ _ _) (Ya _) (by simp)) _ n c l rfl hw (by simpa using hn) (by simp) ?_;intro v1 w1 hown1 hb1)
  go_ret;rw [List.nil_append] at hown1;obtain ⟨A1,c1,rfl,hs1,hf1⟩:=hown1.sl h.lt;exact ⟨A1,l.length,c1,rfl,hs1,hf1,((Yp _ _).alloc (Ya _) _).trans hb1⟩
theorem zJc {l m:List Nat}{k x:Nat}(h:l.drop (k+1)=m.drop (k+1)) (hx:l[k]? = some x) (hy:m[k]? = some x):l.drop k=m.drop k:=by
 have h1:k<l.length:=by
  rcases Xj k l.length with h' | h'
  ·exact h'
  ·rw [Yy h'] at hx;cases hx
 have h2:k<m.length:=by
  rcases Xj k m.length with h' | h'
  ·exact h'
  ·rw [Yy h'] at hy;cases hy
 rw [List.drop_eq_getElem_cons h1,List.drop_eq_getElem_cons h2,h];rw [Yo h1] at hx;rw [Yo h2] at hy;injection hx with hx
 injection hy with hy
 rw [hx,hy]
theorem zIH {l l':List Nat}{k t x y:Nat}(hk:(zAa (val l)).length=k) (hk':(zAa (val l')).length=k) (hd:(zAa (val l)).drop (t+1)=(zAa (val l')).drop (t+1))
  (hx:(zAa (val l))[t]? = some x) (hy:(zAa (val l'))[t]? = some y) (hxy:x<y):val l<val l':=by
 have:=zDQ (zAk _) (by rw [hk,hk']) hd hx hy hxy
 rwa [zAH,zAH] at this
theorem zDN (A B:Option Addr) (n c m d:Nat) (l l':List Nat) (w:World) (h:SL w A n c l) (h':SL w B m d l') :
  Calls Tryz.prog 78 #[.slice A n c,.slice B m d] w fun e w'=>e=.returned (.int .i64 (zCT (val l) (val l')))/\∃q,w' = w.drewN q:=by
 have hT:=h.trim;have hT':=h'.trim;have hcap:=hT.cap;have hcap':=hT'.cap;have hmax:=hT.max;have hmax':=hT'.max;generalize hk:(zAa (val l)).length=k at *;generalize hk':(zAa (val l')).length=k' at *;have HK:=Zh hk;have HK':=Zh hk';clear hk hk';go_enter Tryz.func78,Tryz.ntmps78
 go_wp2_with fail
 refine (zBU A n c l _ h).mono ?_;rintro e w' ⟨rfl,rfl⟩
 rw [HK.out];go_wp2_with fail
 refine (zBU B m d l' _ h').mono ?_;rintro e w' ⟨rfl,rfl⟩
 rw [HK'.out];by_cases hlt:k<k'
 ·have hne:((k:Int) == (k':Int))=false:=by simp;omega
  have hne':((k:Int) != (k':Int))=true:=by simp;omega
  go_wp2_with fail
  go_ret;exact ⟨by rw [zCL (zBo (by rw [HK.out,HK'.out];exact hlt))];rfl,0,rfl⟩
 by_cases hgt:k' < k
 ·have hne:((k:Int) == (k':Int))=false:=by simp;omega
  have hne':((k:Int) != (k':Int))=true:=by simp;omega
  go_wp2_with fail
  go_ret;exact ⟨by rw [zDI (zBo (by rw [HK.out,HK'.out];exact hgt))];rfl,0,rfl⟩
 obtain rfl:k=k':=by omega
 go_wp2_with fail
 go_loopw [5] (fun i wr=>∃j:Nat,j<=k/\i=.int .i64 ((j:Int) - 1)/\(∃q,wr=w.drewN q)/\Hid ((zAa (val l)).drop j=(zAa (val l')).drop j)) (fun i _=>(intOf i+1).toNat)
 case atStart=>exact ⟨k,Ya _,rfl,⟨0,rfl⟩,by rw [Hid,List.drop_of_length_le (by rw [HK.out];omega),List.drop_of_length_le (by rw [HK'.out];omega)]⟩
 case round=>
  obtain ⟨j,hj,rfl,⟨q,rfl⟩,HD⟩:=hrel;by_cases h0:j=0
  ·subst h0
   go_wp2_with fail
   go_ret;exact ⟨by rw [zFT (zP1 (by simpa using HD.out))];rfl,q,rfl⟩
  ·obtain ⟨t,rfl⟩:∃t,j=t+1:=⟨j - 1,by omega⟩
   rw [show ((t+1:Nat):Int) - 1=(t:Int) from by omega];obtain ⟨b,off,x,rfl,hb,hx,hcell,hxlt⟩:=hT.get (k:=t) (by omega);obtain ⟨b',off',y,rfl,hb',hy,hcell',hylt⟩:=hT'.get (k:=t) (by omega);have HX:=Zh hx;have HY:=Zh hy;clear hx hy;have ht:t<k:=by omega
   by_cases hxy:x<y
   ·go_wp2_with fail
    go_quiet (fail)
    go_wp2_with fail
    go_ret;exact ⟨by rw [zCL (zIH HK.out HK'.out HD.out HX.out HY.out hxy)];rfl,_,by rw [World.drewN_drewN]⟩
   by_cases hyx:y<x
   ·go_wp2_with fail
    go_quiet (fail)
    go_wp2_with fail
    go_quiet (fail)
    go_wp2_with fail
    go_ret;exact ⟨by rw [zDI (zIH HK'.out HK.out HD.out.symm HY.out HX.out hyx)];rfl,_,by rw [World.drewN_drewN,World.drewN_drewN]⟩
   ·obtain rfl:x=y:=by omega
    go_wp2_with fail
    go_quiet (fail)
    go_wp2_with fail
    go_quiet (fail)
    go_wp2_with fail
    go_roundw
    case rel=>exact ⟨t,by omega,rfl,⟨_,by first | rfl | rw [World.drewN_drewN,World.drewN_drewN]⟩,zJc HD.out HX.out HY.out⟩
    case measure=>simp [intOf]
end Go.Proofs.YtngjhigieajkmaaGreatDoor
namespace Go.Proofs.YtngjhigieajkmaaGreatDoor.Pl
def dig (v i:Nat):Nat:=v / 4294967296^i%4294967296
def zDW (n v:Nat):List Nat:=(List.range n).map (dig v)
theorem pow_pos' (i:Nat):0<4294967296^i:=Nat.pow_pos (by omega)
theorem zAb (n v:Nat):(zDW n v).length=n:=by simp [zDW]
theorem zC3 (v i:Nat):dig v i<4294967296:=Nat.mod_lt _ (by omega)
theorem zBg (n v:Nat):zAV (zDW n v):=by
 intro x hx;obtain ⟨i,_,rfl⟩:=List.mem_map.1 hx;exact zC3 v i
theorem zA9 (n v:Nat):zDW (n+1) v=zDW n v++[dig v n]:=by simp [zDW,List.range_succ]
theorem zQ5 (n v:Nat):val (zDW n v)=v%4294967296^n:=by
 induction n with
 | zero=>simp [zDW,val,Nat.mod_one]
 | succ n ih=>
  rw [zA9,zMQ,ih,zAb,dig,Xi,Nat.mod_mul]
theorem zAy {n v:Nat}(h:v<4294967296^n):val (zDW n v)=v:=by rw [zQ5,Nat.mod_eq_of_lt h]
theorem zDR (n:Nat):val (List.replicate n 0)=0:=zDS (fun _ hx=>List.eq_of_mem_replicate hx)
theorem zCh (n:Nat):zAV (List.replicate n 0):=fun x hx=>by rw [List.eq_of_mem_replicate hx];omega
def zEa (n v i:Nat):List Nat:=zDW i v++List.replicate (n - i) 0
theorem zD8 (n v:Nat):zEa n v 0=List.replicate n 0:=by simp [zEa,zDW]
theorem zE0 (n v:Nat):zEa n v n=zDW n v:=by simp [zEa]
theorem zMn {n v i:Nat}(h:i<n):(zEa n v i).set i (dig v i)=zEa n v (i+1):=by
 unfold zEa;rw [List.set_append_right _ _ (by rw [zAb];omega),zAb,Nat.sub_self,zA9,List.append_assoc]
 congr 1
 obtain ⟨k,hk⟩:∃k,n - i=k+1:=⟨n - i - 1,by omega⟩;rw [hk,show n - (i+1)=k from by omega,List.replicate_succ];rfl
theorem zC5 {n v i:Nat}(h:i<n):(zEa n v i)[i]? = some 0:=by
 unfold zEa;rw [Yx (by rw [zAb];omega),zAb,Nat.sub_self];obtain ⟨k,hk⟩:∃k,n - i=k+1:=⟨n - i - 1,by omega⟩;rw [hk,List.replicate_succ];rfl
theorem zGO (l:List Nat) (h:zAV l) (k:Nat) (hk:k<=l.length):val (l.drop k)=val l / 4294967296^k:=by
 have e:=zBh l k;have hlt:=zB0 (l.take k) (h.take k);rw [Yr,Nat.min_eq_left hk] at e hlt;rw [e,Nat.add_mul_div_left _ _ (pow_pos' k),Nat.div_eq_of_lt hlt,Nat.zero_add]
theorem zCV (l:List Nat) (i x:Nat) (hx:l[i]? = some x):val (l.drop i)=x+4294967296*val (l.drop (i+1)):=by
 have hi:i<l.length:=by
  rcases Xj i l.length with h' | h'
  ·exact h'
  ·rw [Yy h'] at hx;cases hx
 rw [List.drop_eq_getElem_cons hi,val];rw [Yo hi] at hx;injection hx with hx
 rw [hx]
def tzF:Nat->Nat->Nat
 | 0,_=>0
 | f+1,n=>if n%2=1 then 0 else 1+tzF f (n / 2)
def tz (n:Nat):Nat:=tzF n n
theorem zQ3 (f n:Nat) (h0:0<n) (hf:n<=f):∃m,n=2^tzF f n*(2*m+1):=by
 induction f generalizing n with
 | zero=>omega
 | succ f ih=>
  unfold tzF
  split
  ·exact ⟨n / 2,by omega⟩
  ·obtain ⟨m,hm⟩:=ih (n / 2) (by omega) (by omega)
   refine ⟨m,?_⟩;rw [Nat.add_comm 1,Xi,Yz,Nat.mul_comm 2,<- Yz,<- hm];omega
theorem zJC (n:Nat) (h0:0<n):∃m,n=2^tz n*(2*m+1):=zQ3 n n h0 (Ya _)
theorem zES {a b m k:Nat}(h:2^a*(2*m+1)=2^b*(2*k+1)):a=b:=by
 induction a generalizing b with
 | zero=>
  cases b with
  | zero=>rfl
  | succ b=>rw [Xi,Nat.mul_comm (2^b),Yz] at h;omega
 | succ a ih=>
  cases b with
  | zero=>rw [Xi,Nat.mul_comm (2^a),Yz] at h;omega
  | succ b=>
   rw [Xi,Nat.mul_comm (2^a),Yz,Xi,Nat.mul_comm (2^b),Yz] at h;rw [ih (Nat.eq_of_mul_eq_mul_left (by omega:0<2) h)]
theorem zPX {n a m:Nat}(h:n=2^a*(2*m+1)):tz n=a:=by
 have h0:0<n:=by rw [h];exact Nat.mul_pos (Nat.two_pow_pos a) (by omega)
 obtain ⟨k,hk⟩:=zJC n h0;exact zES (hk.symm.trans h)
def zL5 (n:Nat):Nat:=n / 2^tz n
theorem zCj (n:Nat) (h0:0<n):n=zL5 n*2^tz n/\zL5 n%2=1:=by
 obtain ⟨m,hm⟩:=zJC n h0;have:zL5 n=2*m+1:=by
  unfold zL5
  conv=>lhs;lhs;rw [hm]
  exact Nat.mul_div_cancel_left _ (Nat.two_pow_pos _)
 rw [this];exact ⟨by rw [Nat.mul_comm];exact hm,by omega⟩
theorem zDD (n:Nat) (h:0<n):tz n<zAT n:=by
 have e:=(zCj n h).1;have ho:=(zCj n h).2;exact zC8 n (tz n) (by
  have:1*2^tz n<=zL5 n*2^tz n:=Nat.mul_le_mul_right _ (by omega);omega)
theorem zVn (l:List Nat) (i x c m:Nat) (hz:∀j,j<i->l[j]? = some 0) (hx:l[i]? = some x) (hc:c<32) (hm:x=2^c*(2*m+1)):tz (val l)=32*i+c:=by
 have hi:i<l.length:=by
  rcases Xj i l.length with h' | h'
  ·exact h'
  ·rw [Yy h'] at hx;cases hx
 have h0:val (l.take i)=0:=zDS (by
  intro y hy;obtain ⟨j,hj,rfl⟩:=List.mem_iff_getElem.1 hy;rw [Yr] at hj;have:=hz j (by omega);rw [Yo (by omega)] at this;rw [List.getElem_take];injection this)
 have e:=zBh l i;rw [h0,Nat.zero_add,Yr,Nat.min_eq_left (by omega),zCV l i x hx,zBS] at e;obtain ⟨r,hr⟩:∃r,32=c+(r+1):=⟨31 - c,by omega⟩;have hB:4294967296=2^c*(2*2^r):=by
  rw [show (4294967296:Nat)=2^32 from rfl,hr,Nat.pow_add,Xi,Nat.mul_comm (2^r)]
 refine zPX (m:=m+2^r*val (l.drop (i+1))) ?_;rw [e,Nat.pow_add,Yz]
 congr 1
 rw [hm]
 conv=>lhs;rw [hB]
 rw [Yz (2^c),<- Nat.mul_add]
 congr 1
 rw [Nat.mul_add,Yz];omega
theorem zOW (x V p q:Nat) (hp:0<p) (hpq:p*q=4294967296):(x+4294967296*V) / p%4294967296=(x+4294967296*(V%4294967296)) / p%4294967296:=by
 have hV:4294967296*V=4294967296*(V%4294967296)+p*(q*4294967296*(V / 4294967296)):=by
  have:4294967296*(V / 4294967296)+V%4294967296=V:=Nat.div_add_mod V 4294967296;rw [<- Yz,<- Yz,hpq,Yz,<- Nat.mul_add]
  congr 1;omega
 rw [hV,<- Nat.add_assoc,Nat.add_mul_div_left _ _ hp,Nat.mul_comm q,Yz,Nat.add_mul_mod_self_left]
theorem zNw (d:List Nat) (h:zAV d) (r i x y:Nat) (hr:r<32) (hx:d[i]? = some x) (hy:(d[i+1]?).getD 0=y) :
  dig (val d / 2^r) i=(x+4294967296*y) / 2^r%4294967296:=by
 have hi:i<d.length:=by
  rcases Xj i d.length with h' | h'
  ·exact h'
  ·rw [Yy h'] at hx;cases hx
 have hpq:2^r*2^(32 - r)=4294967296:=by rw [<- Nat.pow_add,show r+(32 - r)=32 from by omega]
 rw [dig,Nat.div_div_eq_div_mul,Nat.mul_comm,<- Nat.div_div_eq_div_mul,<- zGO d h i (by omega),zCV d i x hx,zOW x _ _ _ (Nat.two_pow_pos r) hpq]
 congr 4
 by_cases h1:i+1<d.length
 ·have hz:d[i+1]? = some d[i+1]:=Yo h1
  rw [zCV d (i+1) _ hz];have:=h.get hz;rw [hz] at hy;simp at hy;omega
 ·rw [Yy (by omega)] at hy
  rw [List.drop_of_length_le (by omega)];simp [val] at hy ⊢;omega
end Go.Proofs.YtngjhigieajkmaaGreatDoor.Pl
namespace Go.Proofs.YtngjhigieajkmaaGreatDoor
open Go.RowKit Pl Go.Shelf
def zBx (w:World):Prop:=TabAt 1 Lib.deBruijn32tab w
theorem zQ2 (x:Nat) (w:World) (hx:x<4294967296) (h0:x≠0) (ht:zBx w) :
  Calls Tryz.prog 287 #[.int .u32 (x:Int)] w fun e w'=>e=.returned (.int .i64 (tz x))/\w=w':=by
 refine (Tryz.bits_TrailingZeros32 x hx w (fun _=>ht)).mono ?_;rintro e w' ⟨rfl,rfl⟩
 refine ⟨?_,rfl⟩;obtain ⟨m,hm,_⟩:=Lib.ctzFrom_spec 32 x (by omega) (by omega);rw [zPX hm,Lib.ctz,if_neg h0]
theorem zTX (x:Nat) (hx:x<4294967296) (h0:0<x):tz x<32:=Yh (zDD x h0) (zBH x 32 hx)
theorem zSh (A:Option Addr) (n c:Nat) (l:List Nat) (w:World) (h:SL w A n c l) (hn:n<=100000000) (h0:0<val l) (ht:zBx w) :
  Calls Tryz.prog 214 #[.slice A n c] w fun e w'=>e=.returned (.int .i64 (tz (val l)))/\w=w':=by
 have hcap:=h.cap;have hlen:=Zh h.len;have HT:=Zh ht;clear ht;go_enter Tryz.func214,Tryz.ntmps214
 go_wp2_with fail
 go_loop [3,8] (fun s i=>∃k:Nat,k<=n/\i=.int .i64 k/\s=.int .i64 (32*k)/\Hid (∀j,j<k->l[j]? = some 0)) (fun _ i=>n - (intOf i).toNat)
 case atStart=>exact ⟨0,Nat.zero_le _,rfl,rfl,fun j hj=>absurd hj (by omega)⟩
 case round=>
  obtain ⟨k,hk,rfl,rfl,HZ⟩:=hrel;by_cases hlt:k<n
  ·obtain ⟨b,off,x,rfl,hb,hx,hcell,hxlt⟩:=h.get hlt
   have HX:=Zh hx;clear hx;by_cases hx0:x=0
   ·subst hx0
    go_wp2_with fail
    go_round
    case rel=>exact ⟨k+1,by omega,by go_num,by go_num,fun j hj=>by
     by_cases hjk:j<k
     ·exact HZ.out j hjk
     ·obtain rfl:j=k:=by omega
      exact HX.out⟩
    case measure=>simp [intOf];omega
   ·have hx1:((x:Int) != 0)=true:=by simp;omega
    obtain ⟨m,hm⟩:=zJC x (by omega);have hc32:=zTX x hxlt (by omega);have HF:=Zh (zVn l k x _ m HZ.out HX.out hc32 hm);clear hm
    go_wp2_with (go_at_call 287;refine (zQ2 x _ hxlt hx0 HT.out).mono ?_;rintro e w' ⟨rfl,rfl⟩)
    go_ret;exact ⟨by rw [HF.out];go_num,rfl⟩
  ·exfalso
   have:val l=0:=zDS (by
    intro y hy;obtain ⟨j,hj,rfl⟩:=List.mem_iff_getElem.1 hy;have:=HZ.out j (by have:=hlen.out;omega);rw [Yo hj] at this;injection this)
   omega
def zR1 (v b:Nat) (w:World) (e:Ending) (w':World):Prop:=∃A n c l,e=.returned (.slice A n c)/\SL w' A n c l/\val l=v/\n<=b/\zAn w.heap.size A n/\Below w.heap.size w w'
theorem zL7 (a b:Nat) (ha:a<18446744073709551616) (hb:b<18446744073709551616):bits .or .u64 (a:Int) (b:Int)=((a ||| b:Nat):Int):=by
 have hx:a ||| b<2^64:=Nat.or_lt_two_pow (by omega) (by omega);have e:∀c:Nat,c<18446744073709551616->(BitVec.ofInt 64 (c:Int)).toNat=c:=fun c hc=>by
  rw [BitVec.ofInt_natCast,BitVec.toNat_ofNat];exact Nat.mod_eq_of_lt (by omega)
 show IntKind.u64.wrap ((BitVec.ofInt 64 (a:Int) ||| BitVec.ofInt 64 (b:Int)).toNat:Int)=_
 rw [BitVec.toNat_or,e a ha,e b hb];simp only [IntKind.wrap,IntKind.bits,IntKind.signed];simp;omega
theorem zIu (a y r:Nat) (ha:a<2^r) (hr:2^r*(y+1)<=18446744073709551616):bits .or .u64 ((y:Int)*2^r) (a:Int)=((2^r*y+a:Nat):Int)/\bits .or .u64 (a:Int) ((y:Int)*2^r)=((2^r*y+a:Nat):Int):=by
 have h1:2^r*y+a<18446744073709551616:=by rw [Nat.mul_add] at hr;omega
 have e:((y:Int)*2^r)=((2^r*y:Nat):Int):=by
  rw [Int.natCast_mul,Int.natCast_pow,Int.mul_comm];rfl
 rw [e,zL7 _ _ (by omega) (by omega),zL7 _ _ (by omega) (by omega)];have h2:=Nat.two_pow_add_eq_or_of_lt ha y;exact ⟨by rw [h2],by rw [h2,Nat.or_comm]⟩
theorem zBp {w wr:World}{g:Nat}{t:TypeId}{n v i:Nat}(hr:Row wr g t (zEa n v i)) (hi:i<n) (hb:Below w.heap.size w wr) (hg:w.heap.size<=g) (z:Int) (hz:z=((dig v i:Nat):Int)) :
  Row (wr.setCell ⟨g,i,none⟩ (.int .u32 z)) g t (zEa n v (i+1))/\Below w.heap.size w (wr.setCell ⟨g,i,none⟩ (.int .u32 z)):=by
 subst hz;refine ⟨?_,hb.setCell (p:=⟨g,i,none⟩) hg _⟩;have:=hr.set_ i (dig v i)
 rwa [zMn hi] at this
theorem zPF {dl:List Nat}(h:zAV dl) {j x y k:Nat}(hx:dl[j]? = some x) (hy:dl[j+1]? = some y) :
  bits .or .u64 (x:Int) ((y:Int)*4294967296) / 2^(k%32)%4294967296=((dig (val dl / 2^(k%32)) j:Nat):Int):=by
 have hxl:=h.get hx;have hyl:=h.get hy;rw [zNw dl h (k%32) j x y (by omega) hx (by rw [hy];rfl)];rw [show bits .or .u64 (x:Int) ((y:Int)*4294967296)=((2^32*y+x:Nat):Int) from (zIu x y 32 hxl (by omega)).2,show 2^32*y+x=x+4294967296*y from by omega];rw [Int.natCast_emod,Int.natCast_ediv,Int.natCast_pow];rfl
theorem zMI {dl:List Nat}(h:zAV dl) {j x k:Nat}(hx:dl[j]? = some x) (hy:dl[j+1]? = none) :
  (x:Int) / 2^(k%32)%4294967296=((dig (val dl / 2^(k%32)) j:Nat):Int):=by
 rw [zNw dl h (k%32) j x 0 (by omega) hx (by rw [hy];rfl)];rw [Int.natCast_emod,Int.natCast_ediv,Int.natCast_pow];rfl
theorem zTO (A:Option Addr) (n c k:Nat) (l:List Nat) (w:World) (h:SL w A n c l) (hn:n<=1000000) (hk:k<=1000000) :
  Calls Tryz.prog 288 #[.slice A n c,.int .i64 (k:Int)] w (zR1 (val l / 2^k) 1000000 w):=by
 have hT:=h.trim;have hle:=zAl l h.lt;have hlen:=h.len;have hcap:=hT.cap;have hmax:=hT.max;generalize hN:(zAa (val l)).length=N at *;have HN:=Zh hN;clear hN;have hNn:N<=n:=by omega
 have HL:=Zh hlen;clear hlen hle;by_cases hbig:N<=k / 32
 ·go_enter Tryz.func288,Tryz.ntmps288
  go_wp2_with (go_at_call 142;refine (zBU A n c l _ h).mono ?_;rintro e w' ⟨rfl,rfl⟩;rw [HN.out])
  go_ret;refine ⟨_,_,_,_,rfl,SL.nil _,?_,Nat.zero_le _,zAn.zero,Yp _ _⟩;rw [val,Nat.div_eq_of_lt];have h1:=zCy (val l);rw [HN.out,zBS] at h1;exact Yh h1 (Xg (by omega) (by omega))
 ·obtain ⟨b,off,rfl,_,_⟩:=hT.at_ (by omega)
  have hdec:decide ((N:Int)<=(k:Int) / 32)=false:=by simp;omega
  have hS:=hT.drop (k:=k / 32) (by omega);have hv:val ((zAa (val l)).drop (k / 32))=val l / 4294967296^(k / 32):=by rw [zGO _ (zAk _) _ (by rw [HN.out];omega),zAH]
  have HV:=Zh hv;clear hv;go_enter Tryz.func288,Tryz.ntmps288
  go_wp2_with (first
   | (go_at_call 142;refine (zBU _ n c l _ h).mono ?_;rintro e w' ⟨rfl,rfl⟩;rw [HN.out])
   | (at_make;refine zCl rfl (.tmp 21) (.tmp 21) _ 113 rfl zAw Tryz.underlying28 .i64 .i64 _ _ (N - k / 32) (N - k / 32) rfl rfl (by omega) (by omega) (Ya _) (by omega) ?_;intro w1 hr1 hb1 hs1))
  have HM:Hid (N - k / 32<=1000000):=by unfold Hid;omega
  have HM0:Hid (0<N - k / 32):=by unfold Hid;omega
  clear hdec hbig hT hNn hcap hmax;generalize N - k / 32=M at *;generalize off+k / 32=off2 at *;generalize c - k / 32=c2 at *;generalize (zAa (val l)).drop (k / 32)=dl at *;have hM:=HM.out
  go_loopw [25] (fun i wr=>∃j:Nat,j<=M/\i=.int .i64 j/\Row wr w.heap.size 113 (zEa M (val dl / 2^(k%32)) j)/\Below w.heap.size w wr) (fun i _=>M - (intOf i).toNat)
  case atStart=>exact ⟨0,Nat.zero_le _,rfl,by rw [zD8];exact hr1,hb1⟩
  case round=>
   obtain ⟨j,hj,rfl,hr,hb⟩:=hrel;by_cases hlt:j<M
   ·obtain ⟨x,hxb,hx,hcell,hxlt⟩:=(hS.below hb).get' hlt
    have HX:=Zh hx;clear hx;have hoc:=hr.cell (zC5 hlt);have hof:=Blk.frozen hr j;by_cases hlast:j+1<M
    ·obtain ⟨y,hyb,hy,hcelly,hylt⟩:=(hS.below hb).get' hlast
     have HY:=Zh hy;clear hy;go_wp2_with fail
     go_roundw
     case rel=>
      clear hr1 hcell hcelly hoc;exact ⟨j+1,by omega,by go_num,zBp hr hlt hb (Ya _) _ (zPF hS.lt HX.out HY.out)⟩
     case measure=>simp [intOf];omega
    ·go_wp2_with fail
     go_roundw
     case rel=>
      clear hr1 hcell hoc;exact ⟨j+1,by omega,by go_num,zBp hr hlt hb (Ya _) _ (zMI hS.lt HX.out (Yy (by rw [hS.len];omega)))⟩
     case measure=>simp [intOf];omega
   ·go_wp2_with fail
    go_ret;obtain rfl:j=M:=by omega
    rw [zE0] at hr;refine ⟨_,_,_,_,rfl,hr.sl (zBg _ _) (zAb _ _) (by omega),?_,hM,fun _=>⟨_,rfl,Ya _⟩,hb⟩;have hlt:=zB0 dl hS.lt;rw [hS.len] at hlt;rw [zAy (Nat.lt_of_le_of_lt (Nat.div_le_self _ _) hlt),HV.out,Nat.div_div_eq_div_mul,zBS,<- Nat.pow_add,show 32*(k / 32)+k%32=k from by omega]
def zTf (l:List Nat) (w:World) (e:Ending) (w':World):Prop:=∃A n c,e=.returned (.tuple #[.slice A n c,.int .i64 0])/\SL w' A n c l/\zAn w.heap.size A n/\Below w.heap.size w w'
theorem zCR {v:Nat}{l:List Nat}(h:zAV l) (hl:l.length<=256) (hv:v<=val l):(zAa v).length<=256:=
 Yq (zBQ v l.length (Nat.lt_of_le_of_lt hv (zB0 l h))) hl
theorem zRC (A:Option Addr) (n c k:Nat) (l:List Nat) (w:World) (h:SL w A n c l) (hn:n<=256) (hk:k<=65536) :
  Calls Tryz.prog 215 #[.slice A n c,.int .i64 (k:Int)] w (zTf (zAa (val l / 2^k)) w):=by
 have hw:=h.alloc (.cells #[.slice A n c] 28);have h256:¬ 256<n:=by omega
 go_enter Tryz.func215,Tryz.ntmps215
 go_wp2_with fail
 refine (zIq _ A n c _ (by simp)).mono ?_;rintro e w' ⟨rfl,rfl⟩
 go_wp2_with fail
 refine (zTO A n c k l _ hw (by omega) (by omega)).mono ?_;rintro e w' ⟨A1,n1,c1,l1,rfl,hs1,hv1,_,hf1,hb1⟩
 have hb:Below w.heap.size w w':=zAA (zAE _ _) hb1;have HV:=Zh hv1;clear hv1;have h256':(zAa (val l1)).length<=256:=by rw [HV.out];exact zCR h.lt (by rw [h.len];exact hn) (Nat.div_le_self _ _)
 go_wp2_with fail
 refine (zGi A1 n1 c1 l1 _ hs1 h256').mono ?_;rintro e w2 ⟨rfl,hb2⟩
 go_wp2_with fail
 go_ret2
 have hl1:=zAl l1 hs1.lt;have hl2:=hs1.len;rw [<- HV.out];exact ⟨_,_,_,rfl,(hs1.trim.clip).below hb2,(hf1.mono (by simp)).less (by omega),zAA hb hb2⟩
structure Dy where
 neg:Bool
 l:List Nat
 e:Int
def zAZ:Dy:=⟨false,[],0⟩
def zAN (neg:Bool) (v:Nat) (e:Int):Dy:=if v=0 then zAZ else ⟨neg,zAa (zL5 v),e+tz v⟩
def zNV (d:Dy) (w:World) (e:Ending) (w':World):Prop:=∃A n c,e=.returned (.agg #[.bool d.neg,.slice A n c,.int .i64 d.e])/\SL w' A n c d.l/\zAn w.heap.size A n/\Below w.heap.size w w'
theorem Blk.set3 {w:World}{g:Nat}{t:TypeId}{a0 a1 a2:Value}(h:Blk w g t #[a0,a1,a2]) (x0 x1 x2:Value) :
  Blk (((w.setCell ⟨g,0,none⟩ x0).setCell ⟨g,1,none⟩ x1).setCell ⟨g,2,none⟩ x2) g t #[x0,x1,x2]:=((h.set_ 0 x0).set_ 1 x1).set_ 2 x2
theorem zAG {B:Nat}{w w':World}{g:Nat}(h:Below B w w') (hg:B<=g) (x0 x1 x2:Value) :
  Below B w (((w'.setCell ⟨g,0,none⟩ x0).setCell ⟨g,1,none⟩ x1).setCell ⟨g,2,none⟩ x2):=
 ((h.setCell (p:=⟨g,0,none⟩) hg x0).setCell (p:=⟨g,1,none⟩) hg x1).setCell (p:=⟨g,2,none⟩) hg x2
theorem SL.far {w:World}{A:Option Addr}{n c B g:Nat}{l:List Nat}(h:SL w A n c l) (hf:zAn B A n) (hg:g<B) (i:Nat) (x:Value):SL (w.setCell ⟨g,i,none⟩ x) A n c l:=by
 refine ⟨h.len,h.cap,h.max,h.lt,fun hn=>?_⟩;obtain ⟨b,off,rfl,hb,hc⟩:=h.at_ hn;obtain ⟨ad,e,hB⟩:=hf hn;injection e with e
 subst e;have hB:B<=b:=hB;refine ⟨b,off,rfl,by simpa [World.setCell] using hb,fun j y hy=>?_⟩;rw [World.cell?_setCell_other _ _ _ _ (by intro e;injection e with e1;omega)];exact hc j y hy
theorem zHV {fn:Func}{k:Nat}(h:fn.results=#[.cell k 30]) {tmps:Array Value}{W:World}{g:Nat}{t:TypeId}{x0 x1 x2:Value}(hk:tmps.getD k undef=.pointer (some ⟨g,0,none⟩)) (hB:Blk W g t #[x0,x1,x2]) :
  (results fn tmps).run Tryz.prog W=.ok (.agg #[x0,x1,x2]) W:=by
 have c0:=hB.cell 0;have c1:=hB.cell 1;have c2:=hB.cell 2;simp at c0 c1 c2;have hk':tmps[k]?.getD undef=.pointer (some ⟨g,0,none⟩):=by simpa using hk
 simp [results,h,hk',go_sem,c0,c1,c2]
theorem zBI {fn:Func}{k j:Nat}(h:fn.results=#[.cell k 30,.tmp j]) {tmps:Array Value}{W:World}{g:Nat}{t:TypeId}{x0 x1 x2:Value}(hk:tmps.getD k undef=.pointer (some ⟨g,0,none⟩)) (hB:Blk W g t #[x0,x1,x2]) :
  (results fn tmps).run Tryz.prog W=.ok (.tuple #[.agg #[x0,x1,x2],tmps.getD j undef]) W:=by
 have c0:=hB.cell 0;have c1:=hB.cell 1;have c2:=hB.cell 2;simp at c0 c1 c2;have hk':tmps[k]?.getD undef=.pointer (some ⟨g,0,none⟩):=by simpa using hk
 simp [results,h,hk',go_sem,c0,c1,c2]
theorem zBx.below {w w':World}{B:Nat}(h:zBx w) (hb:Below B w w') (hB:1<B):zBx w':=fun j hj=>(hb.cell (p:=⟨1,j,none⟩) hB).trans (h j hj)
theorem zBx.lt {w:World}(h:zBx w):1<w.heap.size:=by
 have:=h 0 (by decide);rcases Xj 1 w.heap.size with hlt | hge
 ·exact hlt
 ·simp [World.cell?,Array.getElem?_eq_none hge] at this
theorem zBx.next {w w':World}(h:zBx w) (hb:Below w.heap.size w w'):zBx w':=h.below hb h.lt
theorem zAi (neg:Bool) (A:Option Addr) (n c:Nat) (l:List Nat) (x:Int) (w:World) (h:SL w A n c l) (hn:n<=256) (hx1:-1000000<=x) (hx2:x<=1000000) (ht:zBx w) :
  Calls Tryz.prog 153 #[.bool neg,.slice A n c,.int .i64 x] w (zNV (zAN neg (val l) x) w):=by
 have h1:=h.alloc (.cells #[.bool false,.slice none 0 0,.int .i64 0] 30);have ht1:=ht.next (zAE w (.cells #[.bool false,.slice none 0 0,.int .i64 0] 30));have HT:=Zh ht;have HT1:=Zh ht1;clear ht ht1;by_cases h0:val l=0
 ·have hd:(zAa (val l)).length=0:=by rw [h0];rfl
  have HD:=Zh hd;have H0:=Zh h0;clear hd h0;go_enter Tryz.func153,Tryz.ntmps153
  go_wp2_with fail
  refine (zHL A n c l _ h1).mono ?_;rintro e w' ⟨rfl,rfl⟩
  rw [HD.out];go_wp2_with fail
  refine Yn (v:=.agg #[.bool false,.slice none 0 0,.int .i64 0]) (by simp [results,Tryz.results153,go_sem]) rfl ?_;rw [zAN,if_pos H0.out];exact ⟨none,0,0,rfl,SL.nil _,zAn.zero,zAE _ _⟩
 ·have hp:0<val l:=by omega
  have hT:=h1.trim;have hdl:=zAl l h.lt;have hll:=h.len;have hdp:(zAa (val l)).length≠0:=by rw [zBK _ hp];simp
  have htz:tz (val l)<65536:=by
   have h1:=zDD (val l) hp;have h2:=zB0 l h.lt;rw [zBS] at h2;have:=zBH _ _ h2;omega
  have hvd:val (zAa (val l))=val l:=zAH _;have HVD:=Zh hvd;have HCD:Hid (zAN neg (val l) x=⟨neg,zAa (val l / 2^tz (val l)),x+tz (val l)⟩):=by unfold Hid zAN;rw [if_neg h0];rfl
  clear hvd h0;generalize hN:(zAa (val l)).length=N at *;generalize hdd:zAa (val l)=dl at *;have HN:=Zh hN;have HDD:=Zh hdd;clear hN hdd;generalize hz:tz (val l)=z at *;have HZ:=Zh hz;clear hz;have hne:((N:Int) == 0)=false:=by simp;omega
  go_enter Tryz.func153,Tryz.ntmps153
  go_wp2_with fail
  refine (zHL A n c l _ h1).mono ?_;rintro e w' ⟨rfl,rfl⟩
  rw [HDD.out,HN.out];go_wp2_with fail
  refine (zSh A N c dl _ hT (by omega) (by rw [HVD.out];exact hp) HT1.out).mono ?_;rintro e w' ⟨rfl,rfl⟩
  rw [HVD.out,HZ.out];go_wp2_with fail
  refine (zRC A N c z dl _ hT (by omega) (by omega)).mono ?_;rintro e w1 ⟨A1,n1,c1,rfl,hs1,hf1,hb1⟩
  have hn1:n1<=256:=by
   rw [<- hs1.len,HVD.out];exact zCR h.lt (by omega) (Nat.div_le_self _ _)
  go_wp2_with fail
  refine (zDj A1 n1 c1 _ _ hs1 (by omega)).mono ?_;rintro e w2 ⟨A2,n2,c2,rfl,hs2,hf2,hb2⟩
  have hb12:=zAA hb1 hb2;obtain ⟨hc,hf⟩:=zF6 hb12;have hsz:w.heap.size+1<=w2.heap.size:=by simpa using hb12.size
  have hcap:=hs2.cap;have hmax:=hs2.max;go_wp2_with fail
  refine (zGB A2 n2 c2 _ hcap hmax).mono ?_;rintro e w3 ⟨rfl,rfl⟩
  go_wp2_with fail
  have hB0:=(Blk.new w 30 #[.bool false,.slice none 0 0,.int .i64 0]).below hb12 (by simp);refine Yn (zHV Tryz.results153 rfl (hB0.set3 _ _ _)) rfl ?_;rw [HCD.out];have hbw:=zAG (zAA (zAE _ _) hb12) (Ya _) (.bool neg) (.slice A2 n2 n2) (.int .i64 (x+z));refine ⟨A2,n2,n2,rfl,?_,hf2.mono (Yq (by simp) hb1.size),hbw⟩;rw [HVD.out] at hs2;have hlt:w.heap.size<w1.heap.size:=Yh (by simp) hb1.size;exact (((hs2.clip.far hf2 hlt 0 _).far hf2 hlt 1 _).far hf2 hlt 2 _)
end Go.Proofs.YtngjhigieajkmaaGreatDoor
namespace Go.Proofs.YtngjhigieajkmaaGreatDoor.Pl
theorem zIv {V V' t i:Nat}(h:V' = V+4294967296^i*t):V' / 4294967296^i=V / 4294967296^i+t:=by
 rw [h,Nat.add_mul_div_left _ _ (pow_pos' i)]
theorem zJ5 {V V' t i:Nat}(h:V' = V+4294967296^i*t):V' / 4294967296^(i+1)=(V / 4294967296^i+t) / 4294967296:=by
 rw [Xi,<- Nat.div_div_eq_div_mul,zIv h]
theorem zKm {V V' R i:Nat}(h:V=V' + 4294967296^(i+1)*R):dig V i=V' / 4294967296^i%4294967296:=by
 rw [dig,h,Xi,Yz,Nat.add_mul_div_left _ _ (pow_pos' i),Nat.add_mul_mod_self_left]
def lim (l:List Nat) (i:Nat):Nat:=(l[i]?).getD 0
theorem zBE {l:List Nat}{i x:Nat}(h:l[i]? = some x):lim l i=x:=by simp [lim,h]
theorem zCB {l:List Nat}{i:Nat}(h:l.length<=i):lim l i=0:=by simp [lim,Yy h]
theorem zG2 {l:List Nat}(h:zAV l) (i:Nat):lim l i<4294967296:=by
 unfold lim;cases hx:l[i]? with
 | none=>simp
 | some x=>simpa using h.get hx
theorem zBb (l:List Nat) (i:Nat):val (l.take (i+1))=val (l.take i)+4294967296^i*lim l i:=by
 cases hx:l[i]? with
 | some x=>rw [zBE hx];exact zBi l i x hx
 | none=>
  have h:l.length<=i:=by
   rcases Xj i l.length with h' | h'
   ·rw [Yo h'] at hx;cases hx
   ·exact h'
  rw [zCB h,Xd (by omega),Xd h];omega
theorem zDv (l:List Nat) (i:Nat):∃R,val l=val (l.take i)+4294967296^i*R:=by
 by_cases h:i<=l.length
 ·refine ⟨val (l.drop i),?_⟩
  have:=zBh l i
  rwa [Yr,Nat.min_eq_left h] at this
 ·exact ⟨0,by rw [Xd (by omega)];omega⟩
theorem zBD (l:List Nat) (h:zAV l) (i:Nat):val (l.take i)<4294967296^i:=by
 have h1:=zB0 (l.take i) (h.take i);refine Yh h1 (Xg (by omega) ?_);rw [Yr];omega
def zJJ (a b:List Nat) (i:Nat):Nat:=(val (a.take i)+val (b.take i)) / 4294967296^i
theorem zGT (a b:List Nat):zJJ a b 0=0:=by simp [zJJ,val]
theorem zNW (a b:List Nat) (ha:zAV a) (hb:zAV b) (i:Nat):zJJ a b i<=1:=by
 have h1:=zBD a ha i;have h2:=zBD b hb i;unfold zJJ;have:(val (a.take i)+val (b.take i)) / 4294967296^i<2:=Nat.div_lt_of_lt_mul (by omega);omega
theorem zNY (a b:List Nat) (i:Nat):val (a.take (i+1))+val (b.take (i+1))=(val (a.take i)+val (b.take i))+4294967296^i*(lim a i+lim b i):=by
 rw [zBb,zBb,Nat.mul_add];omega
theorem zFP (a b:List Nat) (i:Nat):dig (val a+val b) i=(lim a i+lim b i+zJJ a b i)%4294967296:=by
 obtain ⟨R,hR⟩:=zDv a (i+1);obtain ⟨S,hS⟩:=zDv b (i+1);rw [zKm (V:=val a+val b) (V':=val (a.take (i+1))+val (b.take (i+1))) (R:=R+S) (by rw [hR,hS,Nat.mul_add];omega),zIv (zNY a b i),Nat.add_comm];rfl
theorem zDd (a b:List Nat) (i:Nat):zJJ a b (i+1)=(lim a i+lim b i+zJJ a b i) / 4294967296:=by
 unfold zJJ;rw [zJ5 (zNY a b i),Nat.add_comm]
theorem zIP (a b:List Nat) (n:Nat) (ha:zAV a) (hb:zAV b) (h1:a.length<=n) (h2:b.length<=n):dig (val a+val b) n=zJJ a b n:=by
 rw [zFP,zCB h1,zCB h2,Nat.zero_add];have:=zNW a b ha hb n;omega
theorem zNX (a b:List Nat) (n:Nat) (ha:zAV a) (hb:zAV b) (h1:a.length<=n) (h2:b.length<=n):val a+val b<4294967296^(n+1):=by
 have e1:=Yh (zB0 a ha) (Xg (n:=4294967296) (by omega) h1);have e2:=Yh (zB0 b hb) (Xg (n:=4294967296) (by omega) h2);rw [Xi];omega
def zDa (a b:List Nat) (i:Nat):Nat:=if val (a.take i)<val (b.take i) then 1 else 0
theorem zKT (a b:List Nat):zDa a b 0=0:=by simp [zDa,val]
theorem zLO (a b:List Nat) (i:Nat):zDa a b i<=1:=by unfold zDa;split <;> omega
theorem zFJ (a b:List Nat) (ha:zAV a) (hb:zAV b) (i:Nat):zDa a b (i+1)=if lim a i<lim b i+zDa a b i then 1 else 0:=by
 have h1:=zBD a ha i;have h2:=zBD b hb i;unfold zDa;rw [zBb a i,zBb b i];generalize 4294967296^i=p at *;generalize lim a i=x at *;generalize lim b i=y at *;have hx:p*(x+1)=p*x+p:=Nat.mul_succ ..;have hy:p*(y+1)=p*y+p:=Nat.mul_succ ..;rcases Nat.lt_trichotomy x y with h | h | h
 ·have:p*(x+1)<=p*y:=Nat.mul_le_mul_left p h
  rw [if_pos (by omega),if_pos (by omega)]
 ·subst h
  by_cases hc:val (a.take i)<val (b.take i)
  ·rw [if_pos (by omega),if_pos hc,if_pos (by omega)]
  ·rw [if_neg (by omega),if_neg hc,if_neg (by omega)]
 ·have:p*(y+1)<=p*x:=Nat.mul_le_mul_left p h
  rw [if_neg (by omega)]
  split <;> rw [if_neg (by omega)]
theorem zLR (a b:List Nat) (i:Nat) (hb:zAV b):val (a.take i)+4294967296^i*zDa a b i=val (b.take i)+(val (a.take i)+4294967296^i*zDa a b i - val (b.take i))/\True:=by
 refine ⟨?_,trivial⟩;have h2:=zBD b hb i;unfold zDa
 split <;> omega
theorem zLQ (a b:List Nat) (ha:zAV a) (hb:zAV b) (h:val b<=val a) (i:Nat):dig (val a - val b) i=(lim a i+4294967296 - lim b i - zDa a b i)%4294967296:=by
 obtain ⟨R,hR⟩:=zDv a (i+1);obtain ⟨S,hS⟩:=zDv b (i+1);have hc:=zFJ a b ha hb i;have h1:=zBD a ha i;have h2:=zBD b hb i;have h3:=zBD a ha (i+1);have h4:=zBD b hb (i+1);have hxl:=zG2 ha i;have hyl:=zG2 hb i;have hSR:S+zDa a b (i+1)<=R:=by
  unfold zDa;have hle:=h;rw [hR,hS] at hle;generalize 4294967296^(i+1)=q at *;have e1:q*(R+1)=q*R+q:=Nat.mul_succ ..;have e2:q*(S+1)=q*S+q:=Nat.mul_succ ..;have e3:q*(R+1+1)=q*(R+1)+q:=Nat.mul_succ ..
  split
  ·rcases Xj S R with hlt | hge
   ·omega
   ·have:=Nat.mul_le_mul_left q hge
    omega
  ·rcases Xj R S with hlt | hge
   ·have:q*(R+1)<=q*S:=Nat.mul_le_mul_left q hlt
    omega
   ·omega
 obtain ⟨D,hD⟩:∃D,R=S+zDa a b (i+1)+D:=⟨R - (S+zDa a b (i+1)),by omega⟩;have hV:val a - val b=(val (a.take (i+1))+4294967296^(i+1)*zDa a b (i+1) - val (b.take (i+1)))+4294967296^(i+1)*D:=by
  have e:4294967296^(i+1)*R=4294967296^(i+1)*S+4294967296^(i+1)*zDa a b (i+1)+4294967296^(i+1)*D:=by rw [hD,Nat.mul_add,Nat.mul_add]
  have:=(zLR a b (i+1) hb).1;omega
 rw [zKm hV];have hq:val (a.take (i+1))+4294967296^(i+1)*zDa a b (i+1) - val (b.take (i+1)) =
   (val (a.take i)+4294967296^i*zDa a b i - val (b.take i))+4294967296^i*((lim a i+4294967296*zDa a b (i+1)) - lim b i - zDa a b i):=by
  have e0:=(zLR a b i hb).1;have e0':=(zLR a b (i+1) hb).1;have e1:=zBb a i;have e2:=zBb b i;obtain ⟨t,ht⟩:∃t,lim a i+4294967296*zDa a b (i+1)=lim b i+zDa a b i+t:=by
   refine ⟨lim a i+4294967296*zDa a b (i+1) - (lim b i+zDa a b i),?_⟩;have:=zLO a b i;rw [hc]
   split <;> omega
  rw [show lim a i+4294967296*zDa a b (i+1) - lim b i - zDa a b i=t from by omega];have e3:4294967296^i*lim a i+4294967296^(i+1)*zDa a b (i+1)=4294967296^i*lim b i+4294967296^i*zDa a b i+4294967296^i*t:=by
   have:=congrArg (4294967296^i * ·) ht;simp only [Nat.mul_add] at this;rw [Xi,Yz];exact this
  omega
 rw [zIv hq];have hlow:val (a.take i)+4294967296^i*zDa a b i - val (b.take i)<4294967296^i:=by
  unfold zDa
  split <;> omega
 rw [Nat.div_eq_of_lt hlow,Nat.zero_add,hc];have:=zLO a b i
 split <;> omega
def zNC (l:List Nat) (r i:Nat):Nat:=val (l.take i)*2^r / 4294967296^i
theorem zKP (l:List Nat) (r:Nat):zNC l r 0=0:=by simp [zNC,val]
theorem zPA (l:List Nat) (h:zAV l) (r i:Nat):zNC l r i<2^r:=by
 unfold zNC;refine Nat.div_lt_of_lt_mul ?_;exact Nat.mul_lt_mul_of_pos_right (zBD l h i) (Nat.two_pow_pos r)
theorem zPE (l:List Nat) (r i:Nat):val (l.take (i+1))*2^r=val (l.take i)*2^r+4294967296^i*(2^r*lim l i):=by
 rw [zBb,Nat.add_mul,Yz,Nat.mul_comm (lim l i)]
theorem zPC (l:List Nat) (r i:Nat):dig (val l*2^r) i=(2^r*lim l i+zNC l r i)%4294967296:=by
 obtain ⟨R,hR⟩:=zDv l (i+1);rw [zKm (V':=val (l.take (i+1))*2^r) (R:=R*2^r) (by rw [<- Yz,<- Nat.add_mul,<- hR]),zIv (zPE l r i),Nat.add_comm];rfl
theorem zPB (l:List Nat) (r i:Nat):zNC l r (i+1)=(2^r*lim l i+zNC l r i) / 4294967296:=by
 unfold zNC;rw [zJ5 (zPE l r i),Nat.add_comm]
theorem zMH (l:List Nat) (h:zAV l) (r n:Nat) (hr:r<32) (hn:l.length<=n):dig (val l*2^r) n=zNC l r n:=by
 rw [zPC,zCB hn,Nat.mul_zero,Nat.zero_add];have h1:=zPA l h r n;have:2^r<=2^32:=Xg (by omega) (by omega);omega
theorem zRn (l:List Nat) (h:zAV l) (r n:Nat) (hr:r<32) (hn:l.length<=n):val l*2^r<4294967296^(n+1):=by
 have e1:=Yh (zB0 l h) (Xg (n:=4294967296) (by omega) hn);rw [Xi];have h2:2^r<=2^32:=Xg (by omega) (by omega);exact Nat.mul_lt_mul_of_lt_of_le e1 h2 (by omega)
end Go.Proofs.YtngjhigieajkmaaGreatDoor.Pl
namespace Go.Proofs.YtngjhigieajkmaaGreatDoor
open Go.RowKit Pl Go.Shelf
def inR (v:Nat) (e:Int):Bool:=decide (v=0\/(zAT v<=4096/\-16384<=e/\e<=16384/\(zAT v:Int)+e<=16384))
theorem zEd (neg:Bool) (A:Option Addr) (n c:Nat) (l:List Nat) (x:Int) (w:World) (h:SL w A n c l) (hn:n<=100000000) :
  Calls Tryz.prog 46 #[.agg #[.bool neg,.slice A n c,.int .i64 x]] w fun e w'=>e=.returned (.bool (inR (val l) x))/\w.alloc (.cells #[.bool neg,.slice A n c,.int .i64 x] 30)=w':=by
 have h1:=h.alloc (.cells #[.bool neg,.slice A n c,.int .i64 x] 30);have hb0:val l=0 ↔ zAT (val l)=0:=⟨fun h=>by rw [h];rfl,fun h=>by
  rcases Xm (val l) with h' | h'
  ·exact h'
  ·have:=zCS _ h';omega⟩
 have hR:inR (val l) x=decide (zAT (val l)=0\/(zAT (val l)<=4096/\-16384<=x/\x<=16384/\(zAT (val l):Int)+x<=16384)):=by unfold inR;exact Xk.2 (or_congr hb0 Iff.rfl)
 have HR:=Zh hR;clear hR hb0;generalize hN:zAT (val l)=N at *;have HN:=Zh hN;clear hN;have fin:∀b:Bool,(b=true ↔ (N=0\/(N<=4096/\-16384<=x/\x<=16384/\(N:Int)+x<=16384)))->Ending.returned (.bool b)=.returned (.bool (inR (val l) x)):=by
  intro b hb;rw [HR.out]
  congr 2
  rw [Bool.eq_iff_iff,hb,decide_eq_true_iff]
 have FIN:=Zh fin;clear fin;by_cases c0:N=0
 ·subst c0
  go_enter Tryz.func46,Tryz.ntmps46
  go_wp2_with (go_at_call 76;refine (zCF A n c l _ h1 hn).mono ?_;rintro e w' ⟨rfl,rfl⟩;rw [HN.out])
  go_ret;exact ⟨FIN.out true (by simp),rfl⟩
 have c0':((N:Int) == 0)=false:=by simp;omega
 by_cases c1:N<=4096
 ·by_cases c2:-16384<=x
  ·by_cases c3:x<=16384
   ·by_cases c4:(N:Int)+x<=16384
    ·go_enter Tryz.func46,Tryz.ntmps46
     go_wp2_with (go_at_call 76;refine (zCF A n c l _ h1 hn).mono ?_;rintro e w' ⟨rfl,rfl⟩;rw [HN.out])
     go_ret;exact ⟨FIN.out true (by simp;omega),rfl⟩
    ·go_enter Tryz.func46,Tryz.ntmps46
     go_wp2_with (go_at_call 76;refine (zCF A n c l _ h1 hn).mono ?_;rintro e w' ⟨rfl,rfl⟩;rw [HN.out])
     go_ret;exact ⟨FIN.out (decide ((N:Int)+x<=16384)) (by simp;omega),rfl⟩
   ·go_enter Tryz.func46,Tryz.ntmps46
    go_wp2_with (go_at_call 76;refine (zCF A n c l _ h1 hn).mono ?_;rintro e w' ⟨rfl,rfl⟩;rw [HN.out])
    go_ret;exact ⟨FIN.out false (by simp;omega),rfl⟩
  ·go_enter Tryz.func46,Tryz.ntmps46
   go_wp2_with (go_at_call 76;refine (zCF A n c l _ h1 hn).mono ?_;rintro e w' ⟨rfl,rfl⟩;rw [HN.out])
   go_ret;exact ⟨FIN.out false (by simp;omega),rfl⟩
 ·go_enter Tryz.func46,Tryz.ntmps46
  go_wp2_with (go_at_call 76;refine (zCF A n c l _ h1 hn).mono ?_;rintro e w' ⟨rfl,rfl⟩;rw [HN.out])
  go_ret;exact ⟨FIN.out false (by simp;omega),rfl⟩
def zJI (d:Dy) (k:Int) (w:World) (e:Ending) (w':World):Prop:=∃A n c,e=.returned (.tuple #[.agg #[.bool d.neg,.slice A n c,.int .i64 d.e],.int .i64 k])/\SL w' A n c d.l/\zAn w.heap.size A n/\Below w.heap.size w w'
theorem zBf (neg:Bool) (A:Option Addr) (n c:Nat) (l:List Nat) (x:Int) (w:World) (h:SL w A n c l) (hn:n<=100000000) (hr:inR (val l) x=true) :
  Calls Tryz.prog 152 #[.agg #[.bool neg,.slice A n c,.int .i64 x]] w fun e w'=>e=.returned (.tuple #[.agg #[.bool neg,.slice A n c,.int .i64 x],.int .i64 0])/\Below w.heap.size w w':=by
 have h2:=(h.alloc (.cells #[.bool neg,.slice A n c,.int .i64 x] 30)).alloc (.cells #[.bool false,.slice none 0 0,.int .i64 0] 30);have HR:=Zh hr;clear hr;go_enter Tryz.func152,Tryz.ntmps152
 go_wp2_with (go_at_call 46;refine (zEd neg A n c l x _ h2 hn).mono ?_;rintro e w' ⟨rfl,rfl⟩;rw [HR.out])
 refine Yn (v:=.tuple #[.agg #[.bool neg,.slice A n c,.int .i64 x],.int .i64 0]) (by simp [results,Tryz.results152,go_sem]) rfl ⟨rfl,?_⟩
 repeat (first | exact Yp _ _ | refine Below.alloc ?_ (by simp <;> omega) _ | refine Below.setCell ?_ (by simp) _)
theorem zBJ (neg:Bool) (A:Option Addr) (n c:Nat) (l:List Nat) (x:Int) (w:World) (h:SL w A n c l) (hn:n<=100000000) (hr:inR (val l) x=false) :
  Calls Tryz.prog 152 #[.agg #[.bool neg,.slice A n c,.int .i64 x]] w fun e w'=>e=.returned (.tuple #[.agg #[.bool false,.slice none 0 0,.int .i64 0],.int .i64 9])/\Below w.heap.size w w':=by
 have h2:=(h.alloc (.cells #[.bool neg,.slice A n c,.int .i64 x] 30)).alloc (.cells #[.bool false,.slice none 0 0,.int .i64 0] 30);have HR:=Zh hr;clear hr;go_enter Tryz.func152,Tryz.ntmps152
 go_wp2_with (go_at_call 46;refine (zEd neg A n c l x _ h2 hn).mono ?_;rintro e w' ⟨rfl,rfl⟩;rw [HR.out])
 refine Yn (v:=.tuple #[.agg #[.bool false,.slice none 0 0,.int .i64 0],.int .i64 9]) (by simp [results,Tryz.results152,go_sem]) rfl ⟨rfl,?_⟩
 repeat (first | exact Yp _ _ | refine Below.alloc ?_ (by simp <;> omega) _ | refine Below.setCell ?_ (by simp) _)
def zAu (neg:Bool) (v:Nat) (e:Int):Dy×Int:=if inR (val (zAN neg v e).l) (zAN neg v e).e=true then (zAN neg v e,0) else (zAZ,9)
theorem zSi (neg:Bool) (A:Option Addr) (n c:Nat) (l:List Nat) (x:Int) (w:World) (h:SL w A n c l) (hn:n<=256) (he:zNP x=true) (ht:zBx w) :
  Calls Tryz.prog 90 #[.bool neg,.slice A n c,.int .i64 x] w (zJI (zAu neg (val l) x).1 (zAu neg (val l) x).2 w):=by
 have hx:-32768<=x/\x<=32768:=by simpa [zNP] using he
 obtain ⟨hx1,hx2⟩:=hx;have h1:=h.alloc (.cells #[.bool false,.slice none 0 0,.int .i64 0] 30);have HT1:=Zh (ht.next (zAE w (.cells #[.bool false,.slice none 0 0,.int .i64 0] 30)));clear ht;have HE:=Zh he;clear he;have h256:¬ 256<n:=by omega
 go_enter Tryz.func90,Tryz.ntmps90
 go_wp2_with fail
 refine (zFu x _).mono ?_;rintro e w' ⟨rfl,rfl⟩
 rw [HE.out];go_wp2_with fail
 refine (zAi neg A n c l x _ h1 hn (by omega) (by omega) HT1.out).mono ?_;rintro e w1 ⟨A1,n1,c1,rfl,hs1,hf1,hb1⟩
 have hn1:n1<=256:=by
  rw [<- hs1.len];unfold zAN
  split
  ·simp [zAZ]
  ·exact zCR h.lt (by rw [h.len];exact hn) (Nat.div_le_self _ _)
 have HD:Hid (zAu neg (val l) x=if inR (val (zAN neg (val l) x).l) (zAN neg (val l) x).e=true then (zAN neg (val l) x,0) else (zAZ,9)):=rfl;generalize hd:zAN neg (val l) x=d at *;clear hd;generalize zAu neg (val l) x=r at *;have hbw:=zAA (zAE _ _) hb1;by_cases hr:inR (val d.l) d.e=true
 ·have hrr:r=(d,0):=by rw [HD.out,if_pos hr]
  subst hrr;go_wp2_with fail
  refine (zBf d.neg A1 n1 c1 d.l d.e _ hs1 (by omega) hr).mono ?_;rintro e w2 ⟨rfl,hb2⟩
  have hb12:=zAA hb1 hb2;have hbw2:=zAA hbw hb2;obtain ⟨hc,hf⟩:=zF6 hb12;have hsz:w.heap.size+1<=w2.heap.size:=by simpa using hb12.size
  have HR:=Zh hr;clear hr;go_wp2_with fail
  have hB0:=(Blk.new w 30 #[.bool false,.slice none 0 0,.int .i64 0]).below hb12 (by simp);refine Yn (zBI Tryz.results90 rfl (hB0.set3 _ _ _)) rfl ?_;have hlt:w.heap.size<(w.alloc (.cells #[.bool false,.slice none 0 0,.int .i64 0] 30)).heap.size:=by simp
  have hs2:=hs1.below hb2;exact ⟨A1,n1,c1,rfl,(((hs2.far hf1 hlt 0 _).far hf1 hlt 1 _).far hf1 hlt 2 _),hf1.mono (by simp),zAG hbw2 (Ya _) _ _ _⟩
 ·have hrr:r=(zAZ,9):=by rw [HD.out,if_neg hr]
  subst hrr;go_wp2_with fail
  refine (zBJ d.neg A1 n1 c1 d.l d.e _ hs1 (by omega) (by simpa using hr)).mono ?_;rintro e w2 ⟨rfl,hb2⟩
  have hb12:=zAA hb1 hb2;have hbw2:=zAA hbw hb2;obtain ⟨hc,hf⟩:=zF6 hb12;have hsz:w.heap.size+1<=w2.heap.size:=by simpa using hb12.size
  clear hr;go_wp2_with fail
  have hB0:=(Blk.new w 30 #[.bool false,.slice none 0 0,.int .i64 0]).below hb12 (by simp);refine Yn (zBI Tryz.results90 rfl (hB0.set3 _ _ _)) rfl ?_;exact ⟨none,0,0,rfl,SL.nil _,zAn.zero,zAG hbw2 (Ya _) _ _ _⟩
end Go.Proofs.YtngjhigieajkmaaGreatDoor
end
