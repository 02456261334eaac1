/- Bundle 34: what the law's walk stands on: N1, N2, N3, N4, N5, N6, N7, S15, S53. -/
import Derived.RangeFuncNested
import Derived.RangeFuncBound
import Derived.RangeFuncCalls
import Derived.RangeFuncLeaves
import Derived.Shelf.Abstract
import Derived.Shelf.RegionOpen
import Derived.WalkKit
import Derived.OwnWalkIn
import Derived.TacticsInMore
import Derived.LoopNIn
import Derived.LoopIn
import Derived.Maps.AppendAt
import Derived.Laws.EntriesVeiled
import Derived.Maps.OwnIn
import Derived.Test.YtchkfjgcbbbffaaGreatDoorW10
import Derived.Test.YtchkfjgcbbbffaaGreatDoorW13
import Derived.Test.YtchkfjgcbbbffaaGreatDoorW15
import Derived.Test.YtchkfjgcbbbffaaGreatDoorW21
import Derived.Test.YtchkfjgcbbbffaaGreatDoorW33
set_option maxRecDepth 100000
set_option maxHeartbeats 20000000
set_option linter.all false
noncomputable section
namespace Go.Proofs.YtchkfjgcbbbffaaGreatDoor
open Go.RowKit Pl Go.Shelf
structure Nd where
 k:Int
 a:Int
 b:Int
 s:ByteArray
 i:Int
 la:Option Addr
 ln:Nat
 lc:Nat
def Nd.L (x:Nd):Value:=.slice x.la x.ln x.lc
def Nd.cells (x:Nd):List Value:=[.int .i64 x.k,.int .i64 x.a,.int .i64 x.b,.string x.s,.int .i64 x.i,x.L]
abbrev Nd.v (x:Nd):Value:=.agg #[.int .i64 x.k,.int .i64 x.a,.int .i64 x.b,.string x.s,.int .i64 x.i,x.L]
abbrev Ret (R:Bool->World->Prop):Ending->World->Prop:=fun e w'=>∃t,e=.returned (.bool t)/\R t w'
theorem zSR (f:Value) (w:World):Calls Tryz.prog 458 #[.slice none 0 0,f] w fun e w'=>e=.returned (.int .i64 (-1))/\w' = w:=by
 go_enter Tryz.func458,Tryz.ntmps458
 go_wp2_with fail
 go_loopw [8] (fun i wr=>i=.int .i64 0/\wr=w) (fun _ _=>0)
 case atStart=>exact ⟨rfl,rfl⟩
 case round=>
  obtain ⟨rfl,rfl⟩:=hrel;go_wp2_with fail
  go_ret;exact ⟨rfl,rfl⟩
theorem zSS (b c:Nat) (y:Nd) (g:Nat) (lb:Array Value) (w:World) (hc:zA1 w b 0 y.cells) (h1:1<=c)
  (eg:∀args W,(callFunc g args).run Tryz.prog W=.ok (.enter g args) W) (R:Bool->World->Prop)
  (hp:Calls Tryz.prog g (#[y.v]++lb) w (Ret R)) :
  Calls Tryz.prog 458 #[.slice (some ⟨b,0,none⟩) 1 c,.func (.func g) #[] lb] w fun e w'=>∃t,e=.returned (.int .i64 (if t=true then 0 else -1))/\R t w':=by
 have c0:w.cell? ⟨b,0,none⟩=some (.int .i64 y.k):=hc 0 _ rfl;have c1:w.cell? ⟨b,1,none⟩=some (.int .i64 y.a):=hc 1 _ rfl;have c2:w.cell? ⟨b,2,none⟩=some (.int .i64 y.b):=hc 2 _ rfl;have c3:w.cell? ⟨b,3,none⟩=some (.string y.s):=hc 3 _ rfl;have c4:w.cell? ⟨b,4,none⟩=some (.int .i64 y.i):=hc 4 _ rfl;have c5:w.cell? ⟨b,5,none⟩=some y.L:=hc 5 _ rfl;have HP:=Zh hp;clear hp hc;go_enter Tryz.func458,Tryz.ntmps458
 go_wp2_with fail
 go_loopw [8] (fun i wr=>(i=.int .i64 0/\wr=w)\/(i=.int .i64 1/\R false wr)) (fun i _=>1 - (intOf i).toNat)
 case atStart=>exact .inl ⟨rfl,rfl⟩
 case round=>
  rcases hrel with ⟨rfl,rfl⟩ | ⟨rfl,hR⟩
  ·go_wp2_with fail
   refine HP.out.mono ?_;rintro e w' ⟨t,rfl,hR⟩
   cases t
   ·go_wp2_with fail
    go_roundw
    case rel=>exact .inr ⟨rfl,hR⟩
    case measure=>simp [intOf]
   ·go_wp2_with fail
    go_ret;exact ⟨true,rfl,hR⟩
  ·go_wp2_with fail
   go_ret;exact ⟨false,rfl,hR⟩
theorem zDJ {f:Nat}{fn:Func}{c:Code}(hfn:Tryz.prog.funcs[f]? = some fn) (hname:(fn.name == "runtime.NumGoroutine")=false) (hb:fn.body=some c):∀args W,(callFunc f args).run Tryz.prog W=.ok (.enter f args) W:=by
 intro args W;have hname':¬ fn.name = "runtime.NumGoroutine":=by simpa using hname
 simp [callFunc,hfn,hname',hb]
theorem zSN (f:Value) (w:World):Calls Tryz.prog 412 #[.slice none 0 0,f] w fun e w'=>e=.returned (.bool false)/\w' = w:=by
 go_enter Tryz.func412,Tryz.ntmps412
 go_wp2_with (go_at_call 458;refine (zSR f w).mono ?_;rintro e w' ⟨rfl,rfl⟩)
 go_ret;exact ⟨rfl,rfl⟩
theorem zSO (b c:Nat) (y:Nd) (g:Nat) (lb:Array Value) (w:World) (hc:zA1 w b 0 y.cells) (h1:1<=c)
  (eg:∀args W,(callFunc g args).run Tryz.prog W=.ok (.enter g args) W) (R:Bool->World->Prop)
  (hp:Calls Tryz.prog g (#[y.v]++lb) w (Ret R)) :
  Calls Tryz.prog 412 #[.slice (some ⟨b,0,none⟩) 1 c,.func (.func g) #[] lb] w (Ret R):=by
 have HC:=Zh (zSS b c y g lb w hc h1 eg R hp);clear hp hc;go_enter Tryz.func412,Tryz.ntmps412
 go_wp2_with fail
 refine HC.out.mono ?_;rintro e w' ⟨t,rfl,hR⟩
 cases t
 ·go_wp2_with fail
  go_ret;exact ⟨false,rfl,hR⟩
 ·go_wp2_with fail
  go_ret;exact ⟨true,rfl,hR⟩
theorem zGa {w:World}{g:Nat}{t:TypeId}{a b c d e f:Value}(h:Blk w g t #[a,b,c,d,e,f]):w.cell? ⟨g,0,none⟩=some a/\w.cell? ⟨g,1,none⟩=some b/\w.cell? ⟨g,2,none⟩=some c/\w.cell? ⟨g,3,none⟩=some d/\w.cell? ⟨g,4,none⟩=some e/\w.cell? ⟨g,5,none⟩=some f:=⟨h.cell 0,h.cell 1,h.cell 2,h.cell 3,h.cell 4,h.cell 5⟩
theorem zS1 (p:Nat) (y:Nd) (g:Nat) (lb:Array Value) (w:World) (hg:w.cell? ⟨p,0,none⟩=some (.func (.func g) #[] lb))
  (eg:∀args W,(callFunc g args).run Tryz.prog W=.ok (.enter g args) W) (R:Bool->World->Prop)
  (hp:Calls Tryz.prog g (#[y.v]++lb) (w.alloc (.cells #[.int .i64 y.k,.int .i64 y.a,.int .i64 y.b,.string y.s,.int .i64 y.i,y.L] 126)) (Ret R)) :
  Calls Tryz.prog 501 #[y.v,.pointer (some ⟨p,0,none⟩)] w (Ret fun t=>R (!t)):=by
 have h1:(w.alloc (.cells #[.int .i64 y.k,.int .i64 y.a,.int .i64 y.b,.string y.s,.int .i64 y.i,y.L] 126)).cell? ⟨p,0,none⟩=some (.func (.func g) #[] lb):=cell_kept hg (World.grownBy_alloc w _ none) (fun r e=>by cases e);have HN:=Blk.new w 126 #[.int .i64 y.k,.int .i64 y.a,.int .i64 y.b,.string y.s,.int .i64 y.i,y.L];obtain ⟨q0,q1,q2,q3,q4,q5⟩:=zGa HN;have HP:=Zh hp;clear hp;go_enter Tryz.func501,Tryz.ntmps501
 go_wp2_with fail
 refine HP.out.mono ?_;rintro e w' ⟨t,rfl,hR⟩
 go_wp2_with fail
 go_ret;exact ⟨!t,rfl,by simpa using hR⟩
theorem zN3 (g:Nat) (lb:Array Value) (w:World):Calls Tryz.prog 459 #[.slice none 0 0,.func (.func g) #[] lb] w fun e w'=>e=.returned (.bool true)/\w' = w.alloc (.cells #[.func (.func g) #[] lb] 324):=by
 go_enter Tryz.func459,Tryz.ntmps459
 go_wp2_with (go_at_call 412;refine (zSN _ _).mono ?_;rintro e w' ⟨rfl,rfl⟩)
 go_ret;exact ⟨rfl,rfl⟩
theorem zJe (b c:Nat) (y:Nd) (g:Nat) (lb:Array Value) (w:World) (hc:zA1 w b 0 y.cells) (h1:1<=c)
  (eg:∀args W,(callFunc g args).run Tryz.prog W=.ok (.enter g args) W) (R:Bool->World->Prop)
  (hp:Calls Tryz.prog g (#[y.v]++lb) ((w.alloc (.cells #[.func (.func g) #[] lb] 324)).alloc (.cells #[.int .i64 y.k,.int .i64 y.a,.int .i64 y.b,.string y.s,.int .i64 y.i,y.L] 126)) (Ret R)) :
  Calls Tryz.prog 459 #[.slice (some ⟨b,0,none⟩) 1 c,.func (.func g) #[] lb] w (Ret R):=by
 have HC:=Zh (zSO b c y 501 #[.pointer (some ⟨w.heap.size,0,none⟩)] (w.alloc (.cells #[.func (.func g) #[] lb] 324)) (fun j v hj=>cell_kept (hc j v hj) (World.grownBy_alloc w _ none) (fun r e=>by cases e)) h1 (zDJ Tryz.func501 (by kernel_rfl) rfl) (fun t=>R (!t))
  (zS1 w.heap.size y g lb _ (by have:=Blk.new w 324 #[.func (.func g) #[] lb];rw [Blk.cell this];rfl) eg R hp))
 clear hp hc;go_enter Tryz.func459,Tryz.ntmps459
 go_wp2_with (go_at_call 412;refine HC.out.mono ?_;rintro e w' ⟨t,rfl,hR⟩)
 go_ret;exact ⟨!t,rfl,hR⟩
#print axioms zJe
attribute [local go_sem] Oper.semAt_some
def named (b3:Nat) (W:World) (b:Nat):Prop:=∃v,W.cell? ⟨b3,0,none⟩=some v/\v.ownBlock=some b
def Wf (b3:Nat) (W:World):Prop:=b3<W.heap.size/\∀b,named b3 W b->b<W.heap.size
def Kp (b3:Nat) (A B:World):Prop:=Wf b3 A->Wf b3 B/\A.heap.size<=B.heap.size/\(∀b o,b≠b3->¬ named b3 A b->A.heap[b]? = some o->o.isCells=true->B.heap[b]? = some o)/\∀b,named b3 B b->named b3 A b\/A.heap.size<=b
theorem zCX {b3:Nat}{A B:World}(h:B.heap[b3]? = A.heap[b3]?) {b:Nat}(hn:named b3 B b):named b3 A b:=by
 obtain ⟨v,h1,h2⟩:=hn;refine ⟨v,?_,h2⟩;rw [<- h1];simp only [World.cell?,h]
theorem zCi {b3:Nat}{A:World}(o:Obj) (h3:b3<A.heap.size) {b:Nat}(hn:named b3 (A.alloc o) b):named b3 A b:=zCX (Below.heap_alloc _ _ _ h3) hn
theorem Wf.below {b3:Nat}{A B:World}(hw:Wf b3 A) (h:Below A.heap.size A B):Wf b3 B:=
 ⟨Yh hw.1 h.size,fun b hn=>Yh (hw.2 b (zCX (h.block b3 hw.1) hn)) h.size⟩
theorem Wf.alloc {b3:Nat}{A:World}(hw:Wf b3 A) (o:Obj):Wf b3 (A.alloc o):=hw.below ((Yp _ A).alloc (Ya _) _)
theorem Kp.refl (b3:Nat) (A:World):Kp b3 A A:=fun h=>⟨h,Ya _,fun _ _ _ _ h _=>h,fun _ h=>.inl h⟩
theorem Kp.trans {b3:Nat}{A B C:World}(h:Kp b3 A B) (k:Kp b3 B C):Kp b3 A C:=fun hw=>by
 obtain ⟨w1,s1,k1,n1⟩:=h hw;obtain ⟨w2,s2,k2,n2⟩:=k w1;refine ⟨w2,Yq s1 s2,fun b o hb hn ho hc=>k2 b o hb (fun hn'=>?_) (k1 b o hb hn ho hc) hc,fun b hn=>?_⟩
 ·rcases n1 b hn' with h | h
  ·exact hn h
  ·have:=(Yv.1 ho).1
   omega
 ·rcases n2 b hn with h | h
  ·exact n1 b h
  ·exact .inr (Yq s1 h)
theorem Kp.alloc {b3:Nat}{A B:World}(h:Kp b3 A B) (o:Obj):Kp b3 A (B.alloc o):=fun hw=>by
 obtain ⟨w1,s1,k1,n1⟩:=h hw;exact ⟨w1.alloc o,by simp;omega,fun b o' hb hn ho hc=>(Below.heap_alloc _ _ _ (Yv.1 (k1 b o' hb hn ho hc)).1).trans (k1 b o' hb hn ho hc),fun b hn=>n1 b (zCi o w1.1 hn)⟩
theorem zIU {A:World}{b o:Nat}{v:Value}(h:A.cell? ⟨b,o,none⟩=some v):∃ob,A.heap[b]? = some ob/\ob.isCells=true:=by
 cases hb:A.heap[b]? with
 | none=>simp [World.cell?,hb] at h
 | some ob=>exact ⟨ob,rfl,by cases ob <;> simp_all [World.cell?,Obj.isCells]⟩
theorem Kp.cell {b3:Nat}{A B:World}(h:Kp b3 A B) (hw:Wf b3 A) {b o:Nat}{v:Value}(hb:b≠b3) (hn:¬ named b3 A b) (hc:A.cell? ⟨b,o,none⟩=some v):B.cell? ⟨b,o,none⟩=some v:=by
 obtain ⟨ob,h1,h2⟩:=zIU hc;have h3:=(h hw).2.2.1 b ob hb hn h1 h2;rw [<- hc];simp only [World.cell?,h1,h3]
theorem Kp.unnamed {b3:Nat}{A B:World}(h:Kp b3 A B) (hw:Wf b3 A) {b:Nat}(hb:b<A.heap.size) (hn:¬ named b3 A b):¬ named b3 B b:=fun hn'=>by
 rcases (h hw).2.2.2 b hn' with h | h
 ·exact hn h
 ·omega
def zQ9 (b3:Nat) (W:World):Nd->List Nd->Prop
 | x,[]=>x.L=.slice none 0 0
 | x,y::ys=>(∃b c,x.L=.slice (some ⟨b,0,none⟩) 1 c/\1<=c/\b≠b3/\¬ named b3 W b/\zA1 W b 0 y.cells)/\zQ9 b3 W y ys
theorem zQ9.keep {b3:Nat}{A B:World}(h:Kp b3 A B) (hw:Wf b3 A):∀ {ys:List Nd}{x:Nd},zQ9 b3 A x ys->zQ9 b3 B x ys
 | [],_,hx=>hx
 | y::_,_,⟨⟨b,c,h1,h2,h3,h4,h5⟩,h6⟩=>⟨⟨b,c,h1,h2,h3,h.unnamed hw (by
   obtain ⟨ob,hb,_⟩:=zIU (h5 0 (.int .i64 y.k) rfl);exact (Yv.1 hb).1) h4,fun j v hj=>h.cell hw h3 h4 (h5 j v hj)⟩,zQ9.keep h hw h6⟩
theorem zKj (p l:Nat) (y:Nd) (w:World) (hg:w.cell? ⟨p,0,none⟩=some (.func (.yield l) #[] #[])) (R:Bool->World->Prop)
  (hp:Calls Tryz.prog 417 #[y.v,.func (.yield l) #[] #[]] (w.alloc (.cells #[.int .i64 y.k,.int .i64 y.a,.int .i64 y.b,.string y.s,.int .i64 y.i,y.L] 126)) (Ret R)) :
  Calls Tryz.prog 460 #[y.v,.pointer (some ⟨p,0,none⟩)] w (Ret R):=by
 have h1:(w.alloc (.cells #[.int .i64 y.k,.int .i64 y.a,.int .i64 y.b,.string y.s,.int .i64 y.i,y.L] 126)).cell? ⟨p,0,none⟩=some (.func (.yield l) #[] #[]):=cell_kept hg (World.grownBy_alloc w _ none) (fun r e=>by cases e);have HN:=Blk.new w 126 #[.int .i64 y.k,.int .i64 y.a,.int .i64 y.b,.string y.s,.int .i64 y.i,y.L];obtain ⟨q0,q1,q2,q3,q4,q5⟩:=zGa HN;have HP:=Zh hp;clear hp;go_enter Tryz.func460,Tryz.ntmps460
 go_wp2_with (go_at_call 417;refine HP.out.mono ?_;rintro e w' ⟨t,rfl,hR⟩)
 go_ret;exact ⟨t,rfl,hR⟩
def WR (b3:Nat) (J Jx:List Nd->World->Prop) (pre xs:List Nd) (W:World):Bool->World->Prop:=fun t W'=>(t=true/\J (pre++xs) W'/\Kp b3 W W')\/(t=false/\∃q,q <+: xs/\Jx (pre++q) W')
theorem WR.cons {b3:Nat}{J Jx:List Nd->World->Prop}{pre xs:List Nd}{x:Nd}{W W1 W':World}(hk:Kp b3 W W1) {t:Bool}(h:WR b3 J Jx (pre++[x]) xs W1 t W'):WR b3 J Jx pre (x::xs) W t W':=by
 rcases h with ⟨rfl,hj,hk2⟩ | ⟨rfl,q,hq,hx⟩
 ·exact .inl ⟨rfl,by simpa using hj,hk.trans hk2⟩
 ·exact .inr ⟨rfl,x::q,List.cons_prefix_cons.2 ⟨rfl,hq⟩,by simpa using hx⟩
theorem zKZ (l b3:Nat) (J Jx:List Nd->World->Prop) (ys:List Nd) (x:Nd) (pre:List Nd) (W:World) (hw:Wf b3 W)
  (hY:YieldAt Fence.wide 2 Tryz.prog l #[x.v] ((W.alloc (.cells #[.int .i64 x.k,.int .i64 x.a,.int .i64 x.b,.string x.s,.int .i64 x.i,x.L] 126)).alloc (.cells #[.func (.yield l) #[] #[]] 324)) fun e W'=>
   (e=.returned (.bool true)/\J (pre++[x]) W'/\Kp b3 ((W.alloc (.cells #[.int .i64 x.k,.int .i64 x.a,.int .i64 x.b,.string x.s,.int .i64 x.i,x.L] 126)).alloc (.cells #[.func (.yield l) #[] #[]] 324)) W')\/(e=.returned (.bool false)/\Jx (pre++[x]) W'))
  (hE:∀W3,J (pre++[x]) W3->Kp b3 W W3->W3.cell? ⟨W.heap.size+1,0,none⟩=some (.func (.yield l) #[] #[])->Calls Tryz.prog 459 #[x.L,.func (.func 460) #[] #[.pointer (some ⟨W.heap.size+1,0,none⟩)]] W3 (Ret (WR b3 J Jx (pre++[x]) ys W3))) :
  Calls Tryz.prog 417 #[x.v,.func (.yield l) #[] #[]] W (Ret (WR b3 J Jx pre (x::ys) W)):=by
 have HN:=(Blk.new W 126 #[.int .i64 x.k,.int .i64 x.a,.int .i64 x.b,.string x.s,.int .i64 x.i,x.L]).alloc (.cells #[.func (.yield l) #[] #[]] 324);have HM:=Blk.new (W.alloc (.cells #[.int .i64 x.k,.int .i64 x.a,.int .i64 x.b,.string x.s,.int .i64 x.i,x.L] 126)) 324 #[.func (.yield l) #[] #[]];rw [World.size_alloc] at HM;have hk2:Kp b3 W ((W.alloc (.cells #[.int .i64 x.k,.int .i64 x.a,.int .i64 x.b,.string x.s,.int .i64 x.i,x.L] 126)).alloc (.cells #[.func (.yield l) #[] #[]] 324)):=((Kp.refl b3 W).alloc _).alloc _;have hs2:((W.alloc (.cells #[.int .i64 x.k,.int .i64 x.a,.int .i64 x.b,.string x.s,.int .i64 x.i,x.L] 126)).alloc (.cells #[.func (.yield l) #[] #[]] 324)).heap.size=W.heap.size+2:=by simp
 have hb:=hw.1;have hw2:=(hk2 hw).1;have hn0:¬ named b3 ((W.alloc (.cells #[.int .i64 x.k,.int .i64 x.a,.int .i64 x.b,.string x.s,.int .i64 x.i,x.L] 126)).alloc (.cells #[.func (.yield l) #[] #[]] 324)) W.heap.size:=fun hn=>Nat.lt_irrefl _ (hw.2 _ (zCi _ hb (zCi _ (by simp;omega) hn)))
 have hn1:¬ named b3 ((W.alloc (.cells #[.int .i64 x.k,.int .i64 x.a,.int .i64 x.b,.string x.s,.int .i64 x.i,x.L] 126)).alloc (.cells #[.func (.yield l) #[] #[]] 324)) (W.heap.size+1):=fun hn=>by
  have:=hw.2 _ (zCi _ hb (zCi _ (by simp;omega) hn));omega
 obtain ⟨fn,tmps,assign,body,hy,hR⟩:=hY;refine (callsIn_wide (n:=3)).1 ?_;refine callsIn_of_wp Tryz.func417 rfl trivial ?_ rfl;simp only [Tryz.ntmps417,List.size_toArray,List.length_cons,List.length_nil,Nat.reduceAdd,Nat.reduceSub,Array.replicate_succ,Array.replicate_zero,List.push_toArray,List.append_toArray,List.nil_append,List.cons_append];apply wpIn_seq
 gi_wp2
 generalize (W.alloc (.cells #[.int .i64 x.k,.int .i64 x.a,.int .i64 x.b,.string x.s,.int .i64 x.i,x.L] 126)).alloc (.cells #[.func (.yield l) #[] #[]] 324)=W2 at *;refine hR.mono ?_;clear hR;rintro e W3 (⟨rfl,hJ3,hk3⟩ | ⟨rfl,hx3⟩)
 ·have c5:W3.cell? ⟨W.heap.size,5,none⟩=some x.L:=hk3.cell hw2 (by omega) hn0 (HN.cell 5)
  have cM:W3.cell? ⟨W.heap.size+1,0,none⟩=some (.func (.yield l) #[] #[]):=hk3.cell hw2 (by omega) hn1 (HM.cell 0);have hE3:=hE W3 hJ3 (hk2.trans hk3) cM;clear hE
  gi_wp2
  refine ⟨trivial,?_⟩;refine (callsIn_wide.2 hE3).mono ?_;rintro e W4 ⟨t,rfl,hR4⟩
  cases t
  ·gi_wp2
   go_ret;exact ⟨false,rfl,hR4.cons (hk2.trans hk3)⟩
  ·gi_wp2
   go_ret;exact ⟨true,rfl,hR4.cons (hk2.trans hk3)⟩
 ·gi_wp2
  refine ⟨trivial,?_⟩
  gi_wp2
  go_ret;exact ⟨false,rfl,.inr ⟨rfl,[x],⟨ys,rfl⟩,hx3⟩⟩
theorem WR.from {b3:Nat}{J Jx:List Nd->World->Prop}{pre xs:List Nd}{W W1 W':World}(hk:Kp b3 W W1) {t:Bool}(h:WR b3 J Jx pre xs W1 t W'):WR b3 J Jx pre xs W t W':=
 h.elim (fun ⟨h1,h2,h3⟩=>.inl ⟨h1,h2,hk.trans h3⟩) .inr
theorem Ret.mono {R R':Bool->World->Prop}(h:∀t w,R t w->R' t w) {e:Ending}{w:World}:Ret R e w->Ret R' e w:=fun ⟨t,h1,h2⟩=>⟨t,h1,h _ _ h2⟩
theorem zPc (l b3 N:Nat) (J Jx:List Nd->World->Prop) (hJa:∀s W o,J s W->J s (W.alloc o))
  (hY:∀pre x W,J pre W->pre.length<N->YieldAt Fence.wide 2 Tryz.prog l #[x.v] W fun e W'=>
   (e=.returned (.bool true)/\J (pre++[x]) W'/\Kp b3 W W')\/(e=.returned (.bool false)/\Jx (pre++[x]) W')) :
  ∀ (ys:List Nd) (x:Nd) (pre:List Nd) (W:World),zQ9 b3 W x ys->J pre W->pre.length+1+ys.length<=N->Wf b3 W->
   Calls Tryz.prog 417 #[x.v,.func (.yield l) #[] #[]] W (Ret (WR b3 J Jx pre (x::ys) W)):=by
 intro ys
 induction ys with
 | nil=>
  intro x pre W hc hJ hN hb;refine zKZ l b3 J Jx [] x pre W hb (hY pre x _ (hJa _ _ _ (hJa _ _ _ hJ)) (by simp at hN;omega)) fun W3 hJ3 hk3 cM=>?_
  have hL:x.L=.slice none 0 0:=hc;rw [hL];refine (zN3 _ _ W3).mono ?_;rintro e W4 ⟨rfl,rfl⟩
  exact ⟨true,rfl,.inl ⟨rfl,by simpa using hJa _ _ _ hJ3,(Kp.refl _ _).alloc _⟩⟩
 | cons y ys ih=>
  intro x pre W hc hJ hN hb;obtain ⟨⟨b,c,hL,h1,hne,hnn,hcell⟩,hch⟩:=hc;refine zKZ l b3 J Jx (y::ys) x pre W hb (hY pre x _ (hJa _ _ _ (hJa _ _ _ hJ)) (by simp at hN;omega)) fun W3 hJ3 hk3 cM=>?_
  rw [hL];refine zJe b c y 460 #[.pointer (some ⟨W.heap.size+1,0,none⟩)] W3 (fun j v hj=>hk3.cell hb hne hnn (hcell j v hj)) h1 (zDJ Tryz.func460 (by kernel_rfl) rfl) _ ?_;refine zKj (W.heap.size+1) l y _ (cell_kept (cell_kept cM (World.grownBy_alloc _ _ none) (fun r e=>by cases e)) (World.grownBy_alloc _ _ none) (fun r e=>by cases e)) _ ?_;have hk5:Kp b3 W3 (((W3.alloc (.cells #[.func (.func 460) #[] #[.pointer (some ⟨W.heap.size+1,0,none⟩)]] 324)).alloc (.cells #[.int .i64 y.k,.int .i64 y.a,.int .i64 y.b,.string y.s,.int .i64 y.i,y.L] 126)).alloc (.cells #[.int .i64 y.k,.int .i64 y.a,.int .i64 y.b,.string y.s,.int .i64 y.i,y.L] 126)):=(((Kp.refl b3 W3).alloc _).alloc _).alloc _;refine (ih y (pre++[x]) _ (hch.keep (hk3.trans hk5) hb) (hJa _ _ _ (hJa _ _ _ (hJa _ _ _ hJ3))) (by simp at hN ⊢;omega) ((hk3.trans hk5) hb).1).mono ?_;exact fun e w' h=>h.mono fun t w'' h=>h.from hk5
#print axioms zPc
def fx:AV:=.agg [.i .i64 (.ofNat 7),.i .i64 (.ofNat 0),.i .i64 (.ofNat 0),.v (.string ⟨#[]⟩),.i .i64 (.ofNat 0),.fsl [.i .i64 (.ofNat 8),.i .i64 (.ofNat 0),.i .i64 (.ofNat 0),.v (.string ⟨#[]⟩),.i .i64 (.ofNat 2),.fsl [.i .i64 (.ofNat 2),.i .i64 (.ofNat 0),.i .i64 (.ofNat 0),.v (.string ⟨#[120]⟩),.i .i64 (.ofNat 0),.v (.slice none 0 0)] 1] 1]
def hC:Hp:=[(7,.cells [.i .i64 (.ofNat 2),.i .i64 (.ofNat 0),.i .i64 (.ofNat 0),.v (.string ⟨#[120]⟩),.i .i64 (.ofNat 0),.v (.slice none 0 0)]),(3,.cells [.i .i64 (.ofNat 8),.i .i64 (.ofNat 0),.i .i64 (.ofNat 0),.v (.string ⟨#[]⟩),.i .i64 (.ofNat 2),.sl 7 0 1 6 none])]
theorem zQ6:zEI (zNy []) (ev (zNy []) 100000) 315 [fx] [] 0=.ok (.b true) [] 16:=by kernel_rfl
theorem zPy:zEI (zNy []) (ev (zNy []) 100000) 418 [fx] [] 0=.ok (.agg [.i .i64 (.ofNat 7),.i .i64 (.ofNat 0),.i .i64 (.ofNat 0),.v (.string ⟨#[]⟩),.i .i64 (.ofNat 0),.sl 3 0 1 6 none]) hC 10:=by kernel_rfl
theorem zTQ:zEI (zNy []) (ev (zNy []) 100000) 368 [.fsl [.v (.string ⟨#[120]⟩)] 1] [] 0=.ok (.tup []) [] 0:=by kernel_rfl
theorem zMj:zEI (zNy []) (ev (zNy []) 100000) 369 [.fsl [.v (.string ⟨#[120]⟩)] 1] [] 0=.ok (.fsl [.v (.string ⟨#[120]⟩)] 1) [] 0:=by kernel_rfl
def fxv (b0:Nat):Value:=.agg #[.int .i64 7,.int .i64 0,.int .i64 0,.string ⟨#[]⟩,.int .i64 0,.slice (some ⟨b0,0,none⟩) 1 1]
def cs1 (b1:Nat):List Value:=[.int .i64 8,.int .i64 0,.int .i64 0,.string ⟨#[]⟩,.int .i64 2,.slice (some ⟨b1,0,none⟩) 1 1]
def cs2:List Value:=[.int .i64 2,.int .i64 0,.int .i64 0,.string ⟨#[120]⟩,.int .i64 0,.slice none 0 0]
def zPn (b0 b1:Nat) (W:World):Prop:=glo.p W/\(∀b,glo.B b->b<W.heap.size)/\zA1 W b0 0 (cs1 b1)/\zA1 W b1 0 cs2
def fzE (b0 b1:Nat) (b:Nat):Prop:=glo.B b\/b=b0\/b=b1
theorem zFR {W:World}{b o:Nat}{v:Value}(h:W.cell? ⟨b,o,none⟩=some v):b<W.heap.size:=by
 obtain ⟨ob,h1,_⟩:=zIU h;exact (Yv.1 h1).1
theorem zPn.grown {b0 b1:Nat}{W W':World}(h:zPn b0 b1 W) (hb:Below W.heap.size W W'):zPn b0 b1 W':=by
 obtain ⟨h1,h2,h3,h4⟩:=h;refine ⟨glo.keep _ _ h1 fun b hB=>hb.block b (h2 b hB),fun b hB=>Yh (h2 b hB) hb.size,fun j v hj=>?_,fun j v hj=>?_⟩
 ·exact (hb.cell (p:=⟨b0,0+j,none⟩) (zFR (h3 j v hj))).trans (h3 j v hj)
 ·exact (hb.cell (p:=⟨b1,0+j,none⟩) (zFR (h4 j v hj))).trans (h4 j v hj)
theorem zRP {b0 b1:Nat}{W:World}(h:zPn b0 b1 W):Inv glo (fun _=>none) (fzE b0 b1) (hget []) W where
 blk id hb e:=by cases e
 inj i j hi hj b s s' e:=by cases e
 fzlt b hb:=by
  rcases hb with hb | rfl | rfl
  ·exact h.2.1 b hb
  ·exact zFR (h.2.2.1 0 _ rfl)
  ·exact zFR (h.2.2.2 0 _ rfl)
 gb b hb:=.inl hb
 gp:=h.1
theorem zRQ {b0 b1:Nat}{W:World}(h:zPn b0 b1 W):Rel (fun _=>none) (fzE b0 b1) W fx (fxv b0):=by
 have r2:zA5 (fun _=>none) (fzE b0 b1) W true [.i .i64 (.ofNat 2),.i .i64 (.ofNat 0),.i .i64 (.ofNat 0),.v (.string ⟨#[120]⟩),.i .i64 (.ofNat 0),.v (.slice none 0 0)] cs2:=
  .cons _ _ _ _ _ (.i _ _) (fun _=>rfl) (.cons _ _ _ _ _ (.i _ _) (fun _=>rfl) (.cons _ _ _ _ _ (.i _ _) (fun _=>rfl) (.cons _ _ _ _ _ (.v _) (fun _=>rfl) (.cons _ _ _ _ _ (.i _ _) (fun _=>rfl) (.cons _ _ _ _ _ (.v _) (fun _=>rfl) (.nil _))))))
 have r1:zA5 (fun _=>none) (fzE b0 b1) W true [.i .i64 (.ofNat 8),.i .i64 (.ofNat 0),.i .i64 (.ofNat 0),.v (.string ⟨#[]⟩),.i .i64 (.ofNat 2),.fsl [.i .i64 (.ofNat 2),.i .i64 (.ofNat 0),.i .i64 (.ofNat 0),.v (.string ⟨#[120]⟩),.i .i64 (.ofNat 0),.v (.slice none 0 0)] 1] (cs1 b1):=
  .cons _ _ _ _ _ (.i _ _) (fun _=>rfl) (.cons _ _ _ _ _ (.i _ _) (fun _=>rfl) (.cons _ _ _ _ _ (.i _ _) (fun _=>rfl) (.cons _ _ _ _ _ (.v _) (fun _=>rfl) (.cons _ _ _ _ _ (.i _ _) (fun _=>rfl) (.cons _ _ _ _ _ (.fsl _ _ _ _ _ _ (.inr (.inr rfl)) h.2.2.2 (Ya _) r2) (fun _=>rfl) (.nil _))))))
 exact .agg _ [_,_,_,_,_,_] (.cons _ _ _ _ _ (.i _ _) (fun _=>rfl) (.cons _ _ _ _ _ (.i _ _) (fun _=>rfl) (.cons _ _ _ _ _ (.i _ _) (fun _=>rfl) (.cons _ _ _ _ _ (.v _) (fun _=>rfl) (.cons _ _ _ _ _ (.i _ _) (fun _=>rfl) (.cons _ _ _ _ _ (.fsl _ _ _ _ _ _ (.inr (.inl rfl)) h.2.2.1 (Ya _) r1) (fun _=>rfl) (.nil _)))))))
theorem zGE {f:Nat}{x:AV}{xv:Value}{v:AV}{H':Hp}{n':Nat}{fz:Nat->Prop}{W:World}(hc:zEI (zNy []) (ev (zNy []) 100000) f [x] [] 0=.ok v H' n')
  (he:∀args W,(callFunc f args).run Tryz.prog W=.ok (.enter f args) W) (hI:Inv glo (fun _=>none) fz (hget []) W) (hr:Rel (fun _=>none) fz W x xv) :
  Calls Tryz.prog f #[xv] W fun e w'=>∃u,e=.returned u/\W.grownBy w' none/\∃ι' fz',(∀b,Trk (hget H') ι' b->W.heap.size<=b)/\(∀b,fz' b->fz b\/W.heap.size<=b)/\Inv glo ι' fz' (hget H') w'/\Rel ι' fz' w' v u:=by
 rcases (zAM [] (zAI _ _)).call 100000 f [x] [] 0 v H' n' hc (fun _=>none) fz W [xv] (.cons _ _ _ _ _ hr (fun h=>by cases h) (.nil _)) hI trivial (fun _ _ _=>rfl) with ⟨u,w',h,_⟩ | ⟨_,h⟩
 ·rw [he] at h
  cases h
 ·refine h.mono ?_
  intro e w' hq;cases e with
  | returned u=>
   obtain ⟨ι',fz',hp,hr'⟩:=hq;have nt:∀b,¬ Trk (hget []) (fun _=>none) b:=fun b ⟨id,hb,s,e,_⟩=>by cases e
   exact ⟨u,rfl,⟨hp.os,hp.tape,hp.output,hp.size,fun k hk _=>hp.keep k hk (nt k)⟩,ι',fz',fun b hb=>(hp.trk b hb).resolve_left (nt b),hp.fzn,hp.inv,hr'⟩
  | panicked c=>exact hq.elim
  | outgrown=>exact hq.elim
theorem zLS {b0 b1:Nat}{W:World}(h:zPn b0 b1 W):Calls Tryz.prog 315 #[fxv b0] W fun e w'=>e=.returned (.bool true)/\W.grownBy w' none:=by
 refine (zGE zQ6 (zDJ Tryz.func315 (by kernel_rfl) rfl) (zRP h) (zRQ h)).mono ?_;rintro e w' ⟨u,rfl,hg,ι',fz',_,_,_,hr⟩
 cases hr;exact ⟨rfl,hg⟩
theorem zTk {ι:Io}{fz:Nat->Prop}{w:World}{c:Bool}{a0 a1 a2 a3 a4 a5:AV}{vs:List Value}(h:zA5 ι fz w c [a0,a1,a2,a3,a4,a5] vs) :
  ∃v0 v1 v2 v3 v4 v5,vs=[v0,v1,v2,v3,v4,v5]/\Rel ι fz w a0 v0/\Rel ι fz w a1 v1/\Rel ι fz w a2 v2/\Rel ι fz w a3 v3/\Rel ι fz w a4 v4/\Rel ι fz w a5 v5:=by
 cases h with
 | cons _ _ v0 _ _ h0 _ h=>
 cases h with
 | cons _ _ v1 _ _ h1 _ h=>
 cases h with
 | cons _ _ v2 _ _ h2 _ h=>
 cases h with
 | cons _ _ v3 _ _ h3 _ h=>
 cases h with
 | cons _ _ v4 _ _ h4 _ h=>
 cases h with
 | cons _ _ v5 _ _ h5 _ h=>
 cases h;exact ⟨_,_,_,_,_,_,rfl,h0,h1,h2,h3,h4,h5⟩
theorem zOl {ι:Io}{fz:Nat->Prop}{w:World}{id:Nat}{v:Value}(h:Rel ι fz w (.sl id 0 1 6 none) v):∃b s c,v=.slice (some ⟨b,0,none⟩) 1 c/\1<=c/\ι id=some (b,s):=by
 cases h with
 | sl _ _ _ _ _ b s c hi hs hl hc=>exact ⟨b,s,c,rfl,hl,hi⟩
theorem zBT {ι:Io}{fz:Nat->Prop}{w:World}{k:IntKind}{n:Int}{v:Value}(h:Rel ι fz w (.i k n) v):v=.int k n:=by cases h;rfl
theorem zF1 {ι:Io}{fz:Nat->Prop}{w:World}{x v:Value}(h:Rel ι fz w (.v x) v):v=x:=by cases h;rfl
theorem zGf {b0 b1:Nat}{W:World}(h:zPn b0 b1 W):Calls Tryz.prog 418 #[fxv b0] W fun e w'=>∃y0 y1 y2:Nd,e=.returned y0.v/\y0.k=7/\y1.k=8/\y2.k=2/\y2.s=⟨#[120]⟩/\(∀b3,Wf b3 W->zQ9 b3 w' y0 [y1,y2])/\W.grownBy w' none:=by
 refine (zGE zPy (zDJ Tryz.func418 (by kernel_rfl) rfl) (zRP h) (zRQ h)).mono ?_;rintro e w' ⟨u,rfl,hg,ι',fz',ht,_,hI,hr⟩
 have cell:∀ (id:Nat) (cs:List AV) (b s:Nat),hget hC id=some (.cells cs)->ι' id=some (b,s)->∃vs,zA5 ι' fz' w' true cs vs/\zA1 w' b 0 vs/\W.heap.size<=b:=by
  intro id cs b s h1 h2;obtain ⟨b',s',h3,_,vs,rest,t,h4,h5,_⟩:=hI.blk id _ h1;rw [h2] at h3;injection h3 with h3
  injection h3 with h3 h3'
  subst h3;refine ⟨vs,h5,fun j v hj=>?_,ht b ⟨id,_,s,h1,h2⟩⟩;have hl:=(Yb.1 hj).1;simp only [World.cell?,h4,Nat.zero_add]
  show (vs++rest).toArray[j]? = some v
  rw [List.getElem?_toArray,Yw hl,hj]
 cases hr with
 | agg cs vs hr=>
  obtain ⟨v0,v1,v2,v3,v4,v5,rfl,r0,r1,r2,r3,r4,r5⟩:=zTk hr;obtain ⟨b,s,c,rfl,hc,hi⟩:=zOl r5;cases zBT r0;cases zBT r1;cases zBT r2;cases zF1 r3;cases zBT r4;obtain ⟨vs,q,hq,hb⟩:=cell 3 _ b s rfl hi;obtain ⟨u0,u1,u2,u3,u4,u5,rfl,r0,r1,r2,r3,r4,r5⟩:=zTk q;obtain ⟨b',s',c',rfl,hc',hi'⟩:=zOl r5;cases zBT r0;cases zBT r1;cases zBT r2;cases zF1 r3;cases zBT r4;obtain ⟨vs,q',hq',hb'⟩:=cell 7 _ b' s' rfl hi';obtain ⟨u0,u1,u2,u3,u4,u5,rfl,r0,r1,r2,r3,r4,r5⟩:=zTk q';cases zBT r0;cases zBT r1;cases zBT r2;cases zF1 r3;cases zBT r4;cases zF1 r5;exact ⟨⟨7,0,0,⟨#[]⟩,0,some ⟨b,0,none⟩,1,c⟩,⟨8,0,0,⟨#[]⟩,2,some ⟨b',0,none⟩,1,c'⟩,⟨2,0,0,⟨#[120]⟩,0,none,0,0⟩,rfl,rfl,rfl,rfl,rfl,
   fun b3 h3=>⟨⟨b,c,rfl,hc,by have:=h3.1;omega,fun hn=>by have:=h3.2 _ (zCX (hg.block b3 h3.1 (by simp)) hn);omega,hq⟩,⟨b',c',rfl,hc',by have:=h3.1;omega,fun hn=>by have:=h3.2 _ (zCX (hg.block b3 h3.1 (by simp)) hn);omega,hq'⟩,rfl⟩,hg⟩
#print axioms zGf
attribute [local go_sem] Oper.semAt_some
theorem zBl {W W':World}(h:W.grownBy W' none) (B:Nat) (hB:B<=W.heap.size):Below B W W':=⟨h.os,h.tape,h.output,h.size,fun k hk=>h.block k (by omega) (by simp)⟩
theorem Wf.grown {b3:Nat}{W W':World}(h:Wf b3 W) (hg:W.grownBy W' none):Wf b3 W':=h.below (zBl hg _ (Ya _))
theorem zNJ {m m':Nat}{P:Program}{l:Nat}{args:Array Value}{W:World}{R:Ending->World->Prop}(h:YieldAt Fence.wide m P l args W R):YieldAt Fence.wide m' P l args W R:=by
 obtain ⟨fn,tmps,assign,body,hy,hR⟩:=h;exact ⟨fn,tmps,assign,body,hy,hR.1,fun c cs _=>hR.2 c cs (room_wide _)⟩
def zTm (ys:List Nd):Prop:=∃y0 y1 y2:Nd,ys=[y0,y1,y2]/\y0.k=7/\y1.k=8/\y2.k=2/\y2.s=⟨#[120]⟩
theorem zIJ (n b0 b1 b3 B:Nat) (w0:World) (hg:zPn b0 b1 w0) (hB:Blk w0 B 126 #[.int .i64 7,.int .i64 0,.int .i64 0,.string ⟨#[]⟩,.int .i64 0,.slice (some ⟨b0,0,none⟩) 1 1]) (h3:Wf b3 w0) :
  SeqStopsK Fence.wide n Tryz.prog 416 #[.pointer (some ⟨B,0,none⟩)] (fun x:Nd=>#[x.v]) (Kp b3) zTm (fun _=>True) 3 w0:=by
 intro l J Jx W hW hJ hJx hY h0;have hgW:=hg.grown hW;have hBlt:=hB.lt;have hBW:Blk W B 126 #[.int .i64 7,.int .i64 0,.int .i64 0,.string ⟨#[]⟩,.int .i64 0,.slice (some ⟨b0,0,none⟩) 1 1]:=(hW.block B hBlt).trans hB;obtain ⟨q0,q1,q2,q3,q4,q5⟩:=zGa hBW;have HV:=Zh (zLS hgW);have hJg:∀s A A',W.heap.size<=A.heap.size->J s A->A.grownBy A' none->J s A':=fun s A A' _ h hg=>hJ s A A' none h hg (fun r e=>by cases e)
 have HWk:=Zh (fun (A:World) (y0:Nd) (ys:List Nd) (hc:zQ9 b3 A y0 ys) (hj:J [] A) (hl:ys.length<=2) (hb:Wf b3 A)=>
  zPc l b3 3 J Jx (fun s A o h=>hJ s A _ none h (World.grownBy_alloc A o none) (fun r e=>by cases e)) (fun pre x A hj hl=>zNJ (hY pre x A hj hl)) ys y0 [] A hc hj (by simp;omega) hb)
 clear hY hJ hJx;refine callsIn_wide.2 ?_;go_enter Tryz.func416,Tryz.ntmps416
 go_wp2_with (first
  | (go_at_call 315;refine HV.out.mono ?_;rintro e W1 ⟨rfl,hg1⟩;obtain ⟨p0,p1,p2,p3,p4,p5⟩:=zGa (show Blk W1 B 126 #[.int .i64 7,.int .i64 0,.int .i64 0,.string ⟨#[]⟩,.int .i64 0,.slice (some ⟨b0,0,none⟩) 1 1] from (hg1.block B hBW.lt (by simp)).trans hBW);have HC:=Zh (zGf (hgW.grown (zBl hg1 _ (Ya _)))))
  | (go_at_call 418;refine HC.out.mono ?_;rintro e W2 ⟨y0,y1,y2,rfl,k0,k1,k2,s2,hch,hg2⟩;have HN:=Zh (show zTm [y0,y1,y2] from ⟨y0,y1,y2,rfl,k0,k1,k2,s2⟩);have HK:=Zh (HWk.out W2 y0 [y1,y2] (hch b3 ((h3.below hW).grown hg1)) (hJg _ _ _ hg1.size (hJg _ _ _ (Ya _) h0 hg1) hg2) (by simp) (((h3.below hW).grown hg1).grown hg2));clear k0 k1 k2 s2)
  | (go_at_call 417;refine HK.out.mono ?_;rintro e W3 ⟨t,rfl,hR⟩))
 go_end0
 rcases hR with ⟨_,hj,_⟩ | ⟨_,q,_,hx⟩
 ·exact ⟨⟨_,rfl⟩,.inl ⟨_,HN.out,hj⟩⟩
 ·exact ⟨⟨_,rfl⟩,.inr ⟨_,trivial,hx⟩⟩
#print axioms zIJ
attribute [local go_sem] Oper.semAt_some
theorem zMW (b0:Nat) (w:World):Calls Tryz.prog 367 #[fxv b0] w fun e w'=>e=.returned (.func (.func 416) #[] #[.pointer (some ⟨w.heap.size,0,none⟩)])/\w' = w.alloc (.cells #[.int .i64 7,.int .i64 0,.int .i64 0,.string ⟨#[]⟩,.int .i64 0,.slice (some ⟨b0,0,none⟩) 1 1] 126):=by
 unfold fxv;go_enter Tryz.func367,Tryz.ntmps367
 go_wp2_with fail
 go_ret;exact ⟨rfl,rfl⟩
theorem zUF:(Tryz.prog.info? 9).map (fun i=>(i.zero,i.size,i.bytes))=some (some (.string ⟨#[]⟩),1,16):=by kernel_rfl
theorem zVq:Tryz.prog.underlying 115=some (.slice 9):=by kernel_rfl
def nms (xs:List Nd):List Value:=(xs.filter fun x=>x.k == 2).map fun x=>.string x.s
theorem zSz (pre:List Nd) {x:Nd}(h:x.k=2):nms (pre++[x])=nms pre++[.string x.s]:=by simp [nms,h]
theorem zQf (pre:List Nd) {x:Nd}(h:¬ x.k=2):nms (pre++[x])=nms pre:=by simp [nms,h]
theorem zS0 (pre:List Nd):(nms pre).length<=pre.length:=by simp [nms];exact List.length_filter_le _ _
theorem zPK {g:Nat}{W:World}(h1:glo.p W) (h2:∀b,glo.B b->b<W.heap.size) (h3:zA1 W g 0 [.string ⟨#[120]⟩]):Inv glo (fun _=>none) (fun b=>glo.B b\/b=g) (hget []) W where
 blk id hb e:=by cases e
 inj i j hi hj b s s' e:=by cases e
 fzlt b hb:=by
  rcases hb with hb | rfl
  ·exact h2 b hb
  ·exact zFR (h3 0 _ rfl)
 gb b hb:=.inl hb
 gp:=h1
theorem zPL {g c:Nat}{W:World}(h3:zA1 W g 0 [.string ⟨#[120]⟩]) (hc:1<=c):Rel (fun _=>none) (fun b=>glo.B b\/b=g) W (.fsl [.v (.string ⟨#[120]⟩)] 1) (.slice (some ⟨g,0,none⟩) 1 c):=
 .fsl _ _ _ _ _ _ (.inr rfl) h3 hc (.cons _ _ _ _ _ (.v _) (fun _=>rfl) (.nil _))
theorem zND {g c:Nat}{W:World}(h1:glo.p W) (h2:∀b,glo.B b->b<W.heap.size) (h3:zA1 W g 0 [.string ⟨#[120]⟩]) (hc:1<=c) :
  Calls Tryz.prog 368 #[.slice (some ⟨g,0,none⟩) 1 c] W fun e w'=>(∃u,e=.returned u)/\W.grownBy w' none:=by
 refine (zGE zTQ (zDJ Tryz.func368 (by kernel_rfl) rfl) (zPK h1 h2 h3) (zPL h3 hc)).mono ?_;rintro e w' ⟨u,rfl,hg,_⟩
 exact ⟨⟨u,rfl⟩,hg⟩
theorem zIX {g c:Nat}{W:World}(h1:glo.p W) (h2:∀b,glo.B b->b<W.heap.size) (h3:zA1 W g 0 [.string ⟨#[120]⟩]) (hc:1<=c) :
  Calls Tryz.prog 369 #[.slice (some ⟨g,0,none⟩) 1 c] W fun e w'=>(∃A o c',e=.returned (.slice (some ⟨A,o,none⟩) 1 c')/\1<=c'/\(glo.B A\/A=g\/W.heap.size<=A)/\zA1 w' A o [.string ⟨#[120]⟩])/\W.grownBy w' none:=by
 refine (zGE zMj (zDJ Tryz.func369 (by kernel_rfl) rfl) (zPK h1 h2 h3) (zPL h3 hc)).mono ?_;rintro e w' ⟨u,rfl,hg,ι',fz',_,hz,_,hr⟩
 cases hr with
 | fsl _ vs _ b o c' hf hcl hl hr=>
  cases hr with
  | cons _ _ v _ _ r0 _ hr=>
   cases hr;cases r0;refine ⟨⟨b,o,c',rfl,hl,?_,hcl⟩,hg⟩;rcases hz b hf with (h | h) | h
   ·exact .inl h
   ·exact .inr (.inl h)
   ·exact .inr (.inr h)
theorem zUI {b3:Nat}{w:World}(h3:b3<w.heap.size) (W:World) (l:Nat) (o o':Obj) (hl:w.heap.size<=l) (ho:W.heap[l]? = some o) (hc:o.isCells=false):Kp b3 W (W.putObj l o'):=fun hw=>by
 have hg:=grownBy_putObj' W l o';have hs:(W.putObj l o').heap[b3]? = W.heap[b3]?:=hg.block b3 hw.1 (fun e=>by injection e with e;omega);exact ⟨⟨Yh hw.1 hg.size,fun b hn=>Yh (hw.2 b (zCX hs hn)) hg.size⟩,hg.size,fun b ob _ _ hob hcb=>(hg.block b (Yv.1 hob).1 (fun e=>by injection e with e;subst e;rw [ho] at hob;injection hob with hob;subst hob;rw [hc] at hcb;cases hcb)).trans hob,fun b hn=>.inl (zCX hs hn)⟩
theorem zUH {b3 g' cap' k n₀:Nat}{W w1:World}{v:Value}{tmp:Obj}{ys:List Value}(hv:Boxed W b3 115 v) (hgrow:(W.alloc tmp).grownBy w1 v.ownBlock)
  (hv2:Boxed (w1.setCell ⟨b3,0,none⟩ (.slice (some ⟨g',0,none⟩) (k+1) cap')) b3 115 (.slice (some ⟨g',0,none⟩) (k+1) cap'))
  (hr2:(w1.setCell ⟨b3,0,none⟩ (.slice (some ⟨g',0,none⟩) (k+1) cap')).ownsRow n₀ 9 1 (.slice (some ⟨g',0,none⟩) (k+1) cap') (k+1) ys)
  (hob:(Value.slice (some ⟨g',0,none⟩) (k+1) cap').ownBlock=v.ownBlock\/(Value.slice (some ⟨g',0,none⟩) (k+1) cap').ownBlock=some (W.alloc tmp).heap.size) :
  Kp b3 W (w1.setCell ⟨b3,0,none⟩ (.slice (some ⟨g',0,none⟩) (k+1) cap')):=fun hw=>by
 have hs1:W.heap.size<=w1.heap.size:=by have:=hgrow.size;simp at this;omega
 have hs2:(w1.setCell ⟨b3,0,none⟩ (.slice (some ⟨g',0,none⟩) (k+1) cap')).heap.size=w1.heap.size:=by simp
 have hg':g' < (w1.setCell ⟨b3,0,none⟩ (.slice (some ⟨g',0,none⟩) (k+1) cap')).heap.size:=by
  rcases hr2.2 with ⟨h,_⟩ | ⟨g,cap,cur,h,_,hh,_⟩
  ·cases h
  ·cases h
   exact (Yv.1 hh).1
 have hnm:∀b,named b3 (w1.setCell ⟨b3,0,none⟩ (.slice (some ⟨g',0,none⟩) (k+1) cap')) b->b=g':=by
  rintro b ⟨u,h1,h2⟩
  rw [hv2.cell] at h1;injection h1 with h1
  subst h1;injection h2 with h2
  exact h2.symm
 refine ⟨⟨by have:=hw.1;omega,fun b hn=>by rw [hnm b hn];exact hg'⟩,by omega,fun b o hb hn ho hc=>?_,fun b hn=>?_⟩
 ·have hlt:=(Yv.1 ho).1
  rw [Yl _ _ _ _ hb,hgrow.block b (by simp;omega) (fun e=>hn ⟨v,hv.cell,e.symm⟩),Below.heap_alloc _ _ _ hlt];exact ho
 ·rw [hnm b hn]
  rcases hob with h | h
  ·exact .inl ⟨v,hv.cell,h.symm⟩
  ·injection h with h
   exact .inr (by rw [show g' = _ from h];simp)
theorem zL1 (b0 b1:Nat) (w:World) (hg:zPn b0 b1 w):Calls Tryz.prog 320 #[fxv b0] w fun e W'=>∃A o c,e=.returned (.slice (some ⟨A,o,none⟩) 1 c)/\1<=c/\(glo.B A\/w.heap.size<=A)/\zA1 W' A o [.string ⟨#[120]⟩]/\Below w.heap.size w W':=by
 obtain ⟨i0,hi,hz0,hz1,hz2⟩:=info_parts zUF;have HW:=Zh (zMW b0);refine (callsIn_wide (n:=5)).1 ?_;refine callsIn_of_wp_marks Tryz.func320 rfl trivial ?_ rfl;unfold fxv;simp only [Tryz.ntmps320,List.size_toArray,List.length_cons,List.length_nil,Nat.reduceAdd,Nat.reduceSub,Array.replicate_succ,Array.replicate_zero,List.push_toArray,List.append_toArray,List.nil_append,List.cons_append]
 gi_wp2_with (refine ⟨trivial,?_⟩;gi_at_call 367;refine (callsIn_wide.2 (HW.out _)).mono ?_;rintro e w' ⟨rfl,rfl⟩)
 have hsz:(((w.alloc (.cells #[.int .i64 7,.int .i64 0,.int .i64 0,.string ⟨#[]⟩,.int .i64 0,.slice (some ⟨b0,0,none⟩) 1 1] 126)).alloc (.cells #[.slice none 0 0] 115)).alloc (.cells #[.int .i64 7,.int .i64 0,.int .i64 0,.string ⟨#[]⟩,.int .i64 0,.slice (some ⟨b0,0,none⟩) 1 1] 126)).heap.size=w.heap.size+3:=by simp
 have bO:Boxed (((w.alloc (.cells #[.int .i64 7,.int .i64 0,.int .i64 0,.string ⟨#[]⟩,.int .i64 0,.slice (some ⟨b0,0,none⟩) 1 1] 126)).alloc (.cells #[.slice none 0 0] 115)).alloc (.cells #[.int .i64 7,.int .i64 0,.int .i64 0,.string ⟨#[]⟩,.int .i64 0,.slice (some ⟨b0,0,none⟩) 1 1] 126)) (w.heap.size+1) 115 (.slice none 0 0):=by
  have:=Boxed.new (w.alloc (.cells #[.int .i64 7,.int .i64 0,.int .i64 0,.string ⟨#[]⟩,.int .i64 0,.slice (some ⟨b0,0,none⟩) 1 1] 126)) 115 (.slice none 0 0);rw [World.size_alloc] at this;exact this.alloc _
 have bE:Blk (((w.alloc (.cells #[.int .i64 7,.int .i64 0,.int .i64 0,.string ⟨#[]⟩,.int .i64 0,.slice (some ⟨b0,0,none⟩) 1 1] 126)).alloc (.cells #[.slice none 0 0] 115)).alloc (.cells #[.int .i64 7,.int .i64 0,.int .i64 0,.string ⟨#[]⟩,.int .i64 0,.slice (some ⟨b0,0,none⟩) 1 1] 126)) (w.heap.size+1+1) 126 #[.int .i64 7,.int .i64 0,.int .i64 0,.string ⟨#[]⟩,.int .i64 0,.slice (some ⟨b0,0,none⟩) 1 1]:=by
  have:=Blk.new ((w.alloc (.cells #[.int .i64 7,.int .i64 0,.int .i64 0,.string ⟨#[]⟩,.int .i64 0,.slice (some ⟨b0,0,none⟩) 1 1] 126)).alloc (.cells #[.slice none 0 0] 115)) 126 #[.int .i64 7,.int .i64 0,.int .i64 0,.string ⟨#[]⟩,.int .i64 0,.slice (some ⟨b0,0,none⟩) 1 1];simp only [World.size_alloc] at this;exact this
 have hB0:Below w.heap.size w (((w.alloc (.cells #[.int .i64 7,.int .i64 0,.int .i64 0,.string ⟨#[]⟩,.int .i64 0,.slice (some ⟨b0,0,none⟩) 1 1] 126)).alloc (.cells #[.slice none 0 0] 115)).alloc (.cells #[.int .i64 7,.int .i64 0,.int .i64 0,.string ⟨#[]⟩,.int .i64 0,.slice (some ⟨b0,0,none⟩) 1 1] 126)):=(((Yp _ w).alloc (Ya _) _).alloc (by simp) _).alloc (by simp;omega) _;generalize (((w.alloc (.cells #[.int .i64 7,.int .i64 0,.int .i64 0,.string ⟨#[]⟩,.int .i64 0,.slice (some ⟨b0,0,none⟩) 1 1] 126)).alloc (.cells #[.slice none 0 0] 115)).alloc (.cells #[.int .i64 7,.int .i64 0,.int .i64 0,.string ⟨#[]⟩,.int .i64 0,.slice (some ⟨b0,0,none⟩) 1 1] 126))=W0 at *;have hwf:Wf (w.heap.size+1) W0:=⟨by omega,fun b hn=>by
  obtain ⟨v,h1,h2⟩:=hn;rw [bO.cell] at h1;injection h1 with h1
  subst h1;cases h2⟩
 refine wpIn_rangeFunc_ownH (F:=Fence.wide) rfl (by omega) (gf:=416) (lb:=#[.pointer (some ⟨w.heap.size+1+1,0,none⟩)]) rfl trivial (enters_of Tryz.func416 (by kernel_rfl) rfl)
  (zIJ _ b0 b1 (w.heap.size+1) (w.heap.size+1+1) W0 (hg.grown hB0) bE hwf) (fun h k=>Kp.trans h k) (fun W l o o' hl ho hc _=>zUI hwf.1 W l o o' hl ho hc) (Yp _ _) (fun _=>rfl)
  (fun pre W=>(∃v,Boxed W (w.heap.size+1) 115 v/\W.ownsRow w.heap.size 9 1 v (nms pre).length (nms pre)/\True)/\Below w.heap.size w W)
  (fun _ _ _=>False)
  (OwnFrom.and (Own.from (holdsRow_own w.heap.size (w.heap.size+1) 115 9 1 (fun pre=>(nms pre).length) (fun pre=>nms pre) (fun _ _=>True)) _) (ownFrom_below (Ya _) (by omega)))
  (fun _ _ _ _ _ hs _ _=>hs)
  ⟨⟨_,bO,World.ownsRow_nil _ _ _ _,trivial⟩,hB0⟩
  (fun x a' W=>∃Bx,w.heap.size+1<Bx/\Blk W Bx 126 #[.int .i64 x.k,.int .i64 x.a,.int .i64 x.b,.string x.s,.int .i64 x.i,x.L]/\a' = { tmps:=#[.agg #[.int .i64 7,.int .i64 0,.int .i64 0,.string ⟨#[]⟩,.int .i64 0,.slice (some ⟨b0,0,none⟩) 1 1],.pointer (some ⟨w.heap.size,0,none⟩),.slice none 0 0,.pointer (some ⟨w.heap.size+1,0,none⟩),.pointer (some ⟨Bx,0,none⟩),.agg #[.int .i64 7,.int .i64 0,.int .i64 0,.string ⟨#[]⟩,.int .i64 0,.slice (some ⟨b0,0,none⟩) 1 1],.func (.func 416) #[] #[.pointer (some ⟨w.heap.size+1+1,0,none⟩)],x.v,undef,undef,undef,undef,undef,undef,undef,undef,undef,undef,undef,undef],defers:=[] })
  (fun x a' _ W W' row ⟨Bx,h1,h2,h3⟩ hg hr=>⟨Bx,h1,(hg.block Bx h2.lt (fun e=>by
   obtain ⟨_,o,ho,hc⟩:=hr Bx e.symm;rw [show W.heap[Bx]? = _ from h2] at ho;cases ho;cases hc)).trans h2,h3⟩) ?assign ?body ?done ?stop
 case assign=>
  rintro l pre x W K ⟨⟨v,hv,hrow,_⟩,hB⟩ hK
  dsimp only [Nd.v,Nd.L]
  gi_wp2
  exact hK _ _ ((KeepsOthers.alloc _ _).from _) ((Kp.refl _ W).alloc _) ⟨⟨v,hv.alloc _,hrow.alloc _,trivial⟩,hB.alloc hB.size _⟩ ⟨W.heap.size,hv.lt,Blk.new W 126 #[.int .i64 x.k,.int .i64 x.a,.int .i64 x.b,.string x.s,.int .i64 x.i,x.L],rfl⟩
 case body=>
  rintro l pre x a' W hl ⟨r,hr⟩ ⟨⟨v,hv,hrow,_⟩,hB⟩ ⟨Bx,hBx,bX,rfl⟩ hlt
  unfold Nd.L at bX;obtain ⟨q0,q1,q2,q3,q4,q5⟩:=zGa bX;have hc:=hv.cell;have hpl:=zS0 pre;have hsz2:=hB.size;dsimp only [Nd.v,Nd.L]
  gi_wp2_with (gi_at_builtin;refine wpListIn_append_own_at _ rfl _ _ 115 rfl w.heap.size 9 i0 (.string ⟨#[]⟩) 1 16 zVq hi hz0 hz1 hz2 rfl (by decide) _ _ _ rfl (hrow.alloc _) ⟨W.heap.size,0,none⟩ 1 1 [.string x.s] rfl rfl (cell_one_new _ _ _) (by simp [Value.oneCell']) (by simp [maxLen];omega) (by omega) (by simp;omega) ?_;intro v' w1 hown' hgrow _ hob;obtain ⟨g',cap',rfl⟩:=ownsRow_succ hown';obtain ⟨hv1,hv2,hr2,hk2,hb2⟩:=hv.appended (by decide) hrow hB.size (by omega) hown' hgrow;have hc1:=hv1.cell;have hf1:=hv1.frozen)
  ·have hx:x.k=2:=by simpa using ‹(x.k == 2)=true›
   exact ⟨hk2.from _,zUH hv hgrow hv2 hr2 hob,⟨_,hv2,by rw [zSz pre hx];simpa using hr2,trivial⟩,hB.trans hb2⟩
  ·have hx:¬ x.k=2:=by simpa using ‹(x.k == 2)=false›
   exact ⟨KeepsFrom.refl _ _,Kp.refl _ _,⟨v,hv,by rw [zQf pre hx];exact hrow,trivial⟩,hB⟩
 case done=>
  rintro D ys W hD ⟨y0,y1,y2,rfl,k0,k1,k2,s2⟩ ⟨⟨v,hv,hrow,_⟩,hB⟩ hK
  have hn:nms [y0,y1,y2]=[.string ⟨#[120]⟩]:=by simp [nms,k0,k1,k2,s2]
  rw [hn] at hrow;have hc:=hv.cell;obtain ⟨g,cap,cur,rfl,hg1,hgc,hle,_,hcs,htk⟩:∃g cap cur,v=.slice (some ⟨g,0,none⟩) 1 cap/\w.heap.size<=g/\W.heap[g]? = some (.cells cur 9 (0,0))/\1<=cap/\cap<=maxLen/\cur.size=cap*1/\cur.toList.take (1*1)=[.string ⟨#[120]⟩]:=by
   rcases hrow.2 with ⟨_,h⟩ | h
   ·cases h
   ·exact h
  have hcell:zA1 W g 0 [.string ⟨#[120]⟩]:=fun j u hj=>by
   cases j with
   | zero=>
    injection hj with hj
    subst hj;have h0:cur.toList[0]? = some (.string ⟨#[120]⟩):=by
     have:=congrArg (fun l=>l[0]?) htk
     simpa using this
    simp only [World.cell?,hgc]
    show cur[0]? = _
    rw [<- h0];simp
   | succ j=>cases hj
  have hgd:=hg.grown hB;have HS:=Zh (zND hgd.1 hgd.2.1 hcell hle)
  gi_wp2_with (refine ⟨trivial,?_⟩;gi_at_call 368;refine (callsIn_wide.2 HS.out).mono ?_;rintro e w1 ⟨⟨u,rfl⟩,hg1⟩;have hc1:w1.cell? ⟨w.heap.size+1,0,none⟩=some (.slice (some ⟨g,0,none⟩) 1 cap):=cell_kept hc hg1 (fun r e=>by cases e))
  have hgd1:=hgd.grown (zBl hg1 _ (Ya _));refine ⟨trivial,?_⟩;refine (callsIn_wide.2 (zIX hgd1.1 hgd1.2.1 (fun j u hj=>cell_kept (hcell j u hj) hg1 (fun r e=>by cases e)) hle)).mono ?_;rintro e w2 ⟨⟨A,o,c',rfl,hc',hA,hcA⟩,hg2⟩
  gi_wp2
  have hDl:=(Yv.1 hK).1;have hK2:w2.heap[D]? = some (.deferred (some [])):=(hg2.block D (Yh hDl hg1.size) (by simp)).trans ((hg1.block D hDl (by simp)).trans hK);refine ⟨by simp,.inl ⟨_,_,rfl,run_takeDeferred hK2,?_⟩⟩;have hgp:=grownBy_putObj' w2 D (.deferred none);refine ⟨_,results_tmp rfl _ _ _,A,o,c',rfl,hc',?_,fun j u hj=>cell_kept (hcA j u hj) hgp (fun r e=>by cases e;exact ⟨_,hK2,rfl⟩),?_⟩
  ·rcases hA with h | h | h
   ·exact .inl h
   ·exact .inr (by omega)
   ·exact .inr (by have:=hB.size;have:=hg1.size;omega)
  ·refine (hB.trans (zBl hg1 _ hB.size)).trans ((zBl hg2 _ (by have:=hB.size;have:=hg1.size;omega)).trans ?_)
   exact belowK_b (w:=w) (Ya _) w2 D _ _ (by have:=hB0.size;omega) hK2 rfl rfl
 case stop=>
  rintro D c pre W _ _ h _
  exact h.elim
#print axioms zL1
theorem zL8 {ι:Io}{fz:Nat->Prop}{w:World}{id:Nat}{v:Value}(h:Rel ι fz w (.sl id 0 1 6 (some 1)) v):∃b s,v=.slice (some ⟨b,0,none⟩) 1 1/\ι id=some (b,s):=by
 cases h with
 | sl _ _ _ _ _ b s c hi hs hl hc=>
  have:=hc 1 rfl;subst this;exact ⟨b,s,rfl,hi⟩
theorem zJ1:zA2 Tryz.prog glo 320 zFy.H zFy.args zFy.v:=by
 intro ι fz w vals hr hI;have cell:∀ (id:Nat) (cs:List AV) (b s:Nat),hget zFy.H id=some (.cells cs)->ι id=some (b,s)->∃vs,zA5 ι fz w true cs vs/\zA1 w b 0 vs:=by
  intro id cs b s h1 h2;obtain ⟨b',s',h3,_,vs,rest,t,h4,h5,_⟩:=hI.blk id _ h1;rw [h2] at h3;injection h3 with h3
  injection h3 with h3 h3'
  subst h3;refine ⟨vs,h5,fun j v hj=>?_⟩;have hl:=(Yb.1 hj).1;simp only [World.cell?,h4,Nat.zero_add]
  show (vs++rest).toArray[j]? = some v
  rw [List.getElem?_toArray,Yw hl,hj]
 cases hr with
 | cons _ _ v _ _ r0 _ hr=>
 cases hr;cases r0 with
 | agg cs vs hr=>
 obtain ⟨v0,v1,v2,v3,v4,v5,rfl,r0,r1,r2,r3,r4,r5⟩:=zTk hr;obtain ⟨b0,s0,rfl,hi⟩:=zL8 r5;cases zBT r0;cases zBT r1;cases zBT r2;cases zF1 r3;cases zBT r4;obtain ⟨vs,q,hq⟩:=cell 0 _ b0 s0 rfl hi;obtain ⟨u0,u1,u2,u3,u4,u5,rfl,r0,r1,r2,r3,r4,r5⟩:=zTk q;obtain ⟨b1,s1,rfl,hi'⟩:=zL8 r5;cases zBT r0;cases zBT r1;cases zBT r2;cases zF1 r3;cases zBT r4;obtain ⟨vs,q',hq'⟩:=cell 1 _ b1 s1 rfl hi';obtain ⟨u0,u1,u2,u3,u4,u5,rfl,r0,r1,r2,r3,r4,r5⟩:=zTk q';cases zBT r0;cases zBT r1;cases zBT r2;cases zF1 r3;cases zBT r4;cases zF1 r5;refine (zL1 b0 b1 w ⟨hI.gp,fun b hb=>hI.fzlt b (hI.gb b hb),hq,hq'⟩).mono ?_;rintro e w' ⟨A,o,c,rfl,hc,hA,hcA,hB⟩
 refine ⟨_,rfl,hB,fun fz' h1 h2=>.fsl _ _ _ _ _ _ ?_ hcA hc (.cons _ _ _ _ _ (.v _) (fun _=>rfl) (.nil _))⟩;rcases hA with h | h
 ·exact h1 _ (hI.gb _ h)
 ·exact h2 _ h (zFR (hcA 0 _ rfl))
theorem zRS:zAK Tryz.prog glo 320 zFy:=⟨by kernel_rfl,zJ1.one Tryz.func320 (by kernel_rfl) rfl 2⟩
#print axioms zRS
theorem zEW (w:World) (h1:glo.p w) (h2:∀b,glo.B b->b<w.heap.size):Calls Tryz.prog 7 #[] w fun e w'=>e=.returned (.bool true)/\Below w.heap.size w w':=by
 have hI:Inv glo (fun _=>none) glo.B (hget []) w:=⟨fun _ _ e=>(by cases e),fun _ _ _ _ _ _ _ e=>(by cases e),h2,fun _ h=>h,h1⟩;rcases (zgV zRS).2 (fun _=>none) glo.B w [] (.nil _) hI trivial (fun _ _ _=>rfl) with ⟨u,w',h,_⟩ | ⟨_,h⟩
 ·rw [zDJ Tryz.func7 (by kernel_rfl) rfl] at h
  cases h
 ·refine h.mono ?_
  intro e w' hq;cases e with
  | returned u=>
   obtain ⟨ι',fz',hp,hr'⟩:=hq;cases hr';exact ⟨rfl,hp.os,hp.tape,hp.output,hp.size,fun k hk=>hp.keep k hk (fun ⟨id,hb,s,e,_⟩=>by cases e)⟩
  | panicked c=>exact hq.elim
  | outgrown=>exact hq.elim
#print axioms zEW
theorem zPs {d:Dy}(h:hgD d=false):Bd d:=by unfold hgD at h;unfold Bd;have:=of_decide_eq_false h;omega
theorem zTr {l:List Dy}(h:hgN l=false):∀d∈l,Bd d:=by
 unfold hgN at h;rw [Xd] at h;intro d hd;exact zPs (by have:=List.any_eq_false.1 h.2 d hd;simpa using this)
theorem zTo {l:List Iv}(h:hgB l=false):∀x∈l,BdI x:=by
 unfold hgB at h;rw [Xd] at h;intro d hd;have:=List.any_eq_false.1 h.2 d hd;unfold hgI at this;simp only [Bool.not_eq_true,Xd] at this;exact ⟨zPs this.1,zPs this.2⟩
theorem zTq {m:List (List Dy)}(h:hgM m=false):∀l∈m,∀d∈l,Bd d:=by
 unfold hgM at h;rw [Xd] at h;intro l hl;exact zTr (by have:=List.any_eq_false.1 h.2 l hl;simpa using this)
theorem zTp {f:Fr}(h:hgF f=false):BdF f:=by
 unfold hgF at h;rw [Xd,Xd] at h;exact ⟨zTr h.1.1,zTq h.1.2,zTo h.2⟩
theorem zWU {x:Lk}(h:hgL x=false):BdL x:=by
 unfold hgL at h;rw [Xd,Xd,Xd] at h;exact ⟨zPs h.1.1.1,zTo h.1.1.2,zTp h.1.2,zTq h.2⟩
theorem zPr {x:Ct}(h:hgC x=false):BdC x:=by
 unfold hgC at h;rw [Xd,Xd] at h;exact ⟨zTp h.1.2,fun y hy=>zWU (by have:=List.any_eq_false.1 h.2 y hy;simpa using this)⟩
theorem zCq {w W:World}(h1:glo.p w) (h2:∀b,glo.B b->b<w.heap.size) (hb:Below w.heap.size w W):glo.p W/\∀b,glo.B b->b<W.heap.size:=
 ⟨glo.keep w W h1 (fun b h=>hb.block b (h2 b h)),fun b h=>Yh (h2 b h) hb.size⟩
theorem zpU (A B:Option Addr) (n c m d:Nat):NoU #[.slice A n c,.slice B m d]:=by
 intro i x h
 match i,h with
 | 0,h=>simp at h
 | 1,h=>simp at h
 | i+2,h=>simp at h
theorem Sl.past {α:Type}{k:Nat}{R:World->List Value->α->Prop}{W:World}{A P Q:Option Addr}{n c n1 c1 n2 c2 g:Nat}{t:TypeId}{xs:List α}(h:Sl k R W A n c xs) (hk:Blk W g t #[.slice P n1 c1,.slice Q n2 c2]) (h0:∀vs x,R W vs x->∃b,vs[0]? = some (.bool b)) (i:Nat) (v:Value)
  (hR:∀vs x,R W vs x->R (W.setCell ⟨g,i,none⟩ v) vs x):Sl k R (W.setCell ⟨g,i,none⟩ v) A n c xs:=by
 refine ⟨h.len,h.cap,h.max,fun hp=>?_⟩;obtain ⟨b,off,rfl,hb,hc⟩:=h.at_ hp;have hne:b≠g:=by
  intro e;subst e;obtain ⟨x,hx⟩:∃x,xs[0]? = some x:=⟨xs[0]'(by rw [h.len];exact hp),Yo _⟩;obtain ⟨vs,_,hr,hv⟩:=hc 0 x hx;obtain ⟨z,hz⟩:=h0 vs x hr;have h1:=hv 0 _ hz;rw [hk.cell] at h1;generalize off+0*k+0=j at h1
  match j,h1 with
  | 0,h1=>simp at h1
  | 1,h1=>simp at h1
  | j+2,h1=>simp at h1
 exact ⟨b,off,rfl,by simpa [World.setCell] using hb,fun j x hx=>by
  obtain ⟨vs,h1,h2,h3⟩:=hc j x hx;exact ⟨vs,h1,hR vs x h2,fun q u hu=>(World.cell?_of_block (w:=W) (a:=⟨b,off+j*k+q,none⟩) (Yl _ _ _ _ hne)).trans (h3 q u hu)⟩⟩
theorem zoU {W:World}{A P Q:Option Addr}{n c n1 c1 n2 c2 g:Nat}{t:TypeId}{xs:List Iv}(h:Sl 7 RI W A n c xs) (hk:Blk W g t #[.slice P n1 c1,.slice Q n2 c2]) (i:Nat) (v:Value):Sl 7 RI (W.setCell ⟨g,i,none⟩ v) A n c xs:=
 h.past hk (fun vs x ⟨_,_,_,_,_,_,e,_,_⟩=>⟨x.lo.neg,by rw [e];rfl⟩) i v (fun vs x ⟨A,n,c,B,m,d,e,h1,h2⟩=>⟨A,n,c,B,m,d,e,h1.past (h1.away hk (zpU _ _ _ _ _ _)) i v,h2.past (h2.away hk (zpU _ _ _ _ _ _)) i v⟩)
theorem zpe {W:World}{A P Q:Option Addr}{n c n1 c1 n2 c2 g:Nat}{t:TypeId}{xs:List Sg}(h:Sl 8 RG W A n c xs) (hk:Blk W g t #[.slice P n1 c1,.slice Q n2 c2]) (i:Nat) (v:Value):Sl 8 RG (W.setCell ⟨g,i,none⟩ v) A n c xs:=
 h.past hk (fun vs x ⟨_,_,_,_,_,_,_,_,_,_,_,_,e,_,_,_,_⟩=>⟨x.a.neg,by rw [e];rfl⟩) i v (fun vs x ⟨A,n,c,B,m,d,C,p,q,D,r,s,e,h1,h2,h3,h4⟩=>⟨A,n,c,B,m,d,C,p,q,D,r,s,e,h1.past (h1.away hk (zpU _ _ _ _ _ _)) i v,h2.past (h2.away hk (zpU _ _ _ _ _ _)) i v,zoU h3 hk i v,zoU h4 hk i v⟩)
def znu (x:Ct) (p:Int):(List Iv×List Sg)×Int:=if ctV x=true then znE (trP x) p else (([],[]),1)
theorem zot (vs:List Value) (x:Ct) (p:Int) (w:World) (h:RC w vs x) (hx:BdC x) (hl:x.links.length<=1000) (ht:zBx w):Calls Tryz.prog 18 #[.agg vs.toArray,.int .i64 p] w (zpw (znu x p) w):=by
 have hr:=h;obtain ⟨xA,xn,xc,xB,xm,xd,xC,xp,xq,xL,xln,xlc,rfl,-,-,-,-⟩:=h;have H1:=Zh (fun W (hb:Below w.heap.size w W)=>zBe _ x W (zAm w W _ _ hr hb) hx (ht.next hb));have H2:=Zh (fun W (hb:Below w.heap.size w W)=>zok _ x W (zAm w W _ _ hr hb) hl);have H3:=Zh (fun (us:List Value) W (hb:Below w.heap.size w W) (hv:ctV x=true) (h:RT W us (trP x))=>znw us (trP x) _ _ p W h (zoY hv hx) (ht.next hb));have HPP:Hid (znu x p=if ctV x=true then znE (trP x) p else (([],[]),1)):=rfl;generalize znu x p=PP at *;obtain ⟨cv,hcv⟩:∃cv,ctV x=cv:=⟨_,rfl⟩;have HCV:=Zh hcv;rw [hcv] at H1 HPP;have hW1:=zAE w (.cells #[.int .i64 x.prec,.int .i64 x.order,.slice xA xn xc,.slice xB xm xd,.slice xC xp xq,.slice xL xln xlc] 29);have hW2:=zAE (w.alloc (.cells #[.int .i64 x.prec,.int .i64 x.order,.slice xA xn xc,.slice xB xm xd,.slice xC xp xq,.slice xL xln xlc] 29)) (.cells #[.slice none 0 0,.slice none 0 0] 58);have hb0:=zAA hW1 hW2;have kx:=(Blk.new w 29 #[.int .i64 x.prec,.int .i64 x.order,.slice xA xn xc,.slice xB xm xd,.slice xC xp xq,.slice xL xln xlc]).next hW2;have kr:Blk ((w.alloc (.cells #[.int .i64 x.prec,.int .i64 x.order,.slice xA xn xc,.slice xB xm xd,.slice xC xp xq,.slice xL xln xlc] 29)).alloc (.cells #[.slice none 0 0,.slice none 0 0] 58)) (w.heap.size+1) 58 #[.slice none 0 0,.slice none 0 0]:=Blk.newAt _ _ _ (by simp);obtain ⟨p0,p1,p2,p3,p4,p5⟩:=kx.cells6;clear hr hx hl ht hcv hW1 hW2;go_enter Tryz.func18,Tryz.ntmps18
 go_wp2_with fail
 clear p0 p1 p2 p3 p4 p5;generalize ((w.alloc (.cells #[.int .i64 x.prec,.int .i64 x.order,.slice xA xn xc,.slice xB xm xd,.slice xC xp xq,.slice xL xln xlc] 29)).alloc (.cells #[.slice none 0 0,.slice none 0 0] 58))=W0 at *;refine (H1.out _ hb0).mono ?_;rintro e w1 ⟨rfl,hc⟩
 replace hb0:=zAA hb0 hc;replace kx:=kx.next hc;replace kr:=kr.next hc;clear hc H1;cases cv
 ·have HP:Hid (PP=(([],[]),1)):=HPP.out
  obtain ⟨r0,r1⟩:=kr.cells2;have f0:=kr.frozen 0;have f1:=kr.frozen 1;have HRR:=Zh kr;have HBB9:=Zh hb0;clear kr hb0 kx;go_wp2_with fail
  refine Yn (znx Tryz.results18 rfl (HRR.out.set2 _ _)) rfl ?_;rw [HP.out];exact ⟨none,0,0,none,0,0,rfl,Sl.nil _,Sl.nil _,zm9 HBB9.out (by omega) _ _⟩
 have HP:Hid (PP=znE (trP x) p):=HPP.out;obtain ⟨p0,p1,p2,p3,p4,p5⟩:=kx.cells6;go_wp2_with fail
 clear p0 p1 p2 p3 p4 p5;refine (H2.out _ hb0).mono ?_;rintro e w2 ⟨us,rfl,-,hrt,hc⟩
 replace hb0:=zAA hb0 hc;replace kr:=kr.next hc;have HRT:=Zh hrt;clear hc kx hrt H2;go_wp2_with fail
 refine (H3.out us _ hb0 HCV.out HRT.out).mono ?_;rw [<- HP.out];clear HP HPP H3 HCV;obtain ⟨⟨s,gs⟩,k⟩:=PP;rintro e w3 ⟨A,n,c,B,m,d,rfl,hs1,hs2,hc⟩
 dsimp only at hs1 hs2 ⊢;replace hb0:=zAA hb0 hc;replace kr:=kr.next hc;obtain ⟨r0,r1⟩:=kr.cells2;have f0:=kr.frozen 0;have f1:=kr.frozen 1;have HRR:=Zh kr;have HBB9:=Zh hb0;have HS1:=Zh hs1;have HS2:=Zh hs2;clear kr hb0 hs1 hs2 hc HRT;go_wp2_with fail
 refine Yn (znx Tryz.results18 rfl (HRR.out.set2 _ _)) rfl ?_;exact ⟨A,n,c,B,m,d,rfl,zoU (zoU HS1.out HRR.out 0 _) (HRR.out.set_ 0 _) 1 _,zpe (zpe HS2.out HRR.out 0 _) (HRR.out.set_ 0 _) 1 _,zm9 HBB9.out (by omega) _ _⟩
theorem znM (A B:Option Addr) (n c m d:Nat) (l l':List Iv) (w:World) (h:Sl 7 RI w A n c l) (h':Sl 7 RI w B m d l') (hx:∀x∈l,BdI x) (hy:∀x∈l',BdI x):Calls Tryz.prog 20 #[.slice A n c,.slice B m d] w (zBW (eqF ivE l l') w):=by
 have H1:=Zh (zFw A B n c m d l l' w h h' hx hy);clear h h' hx hy;go_enter Tryz.func20,Tryz.ntmps20
 go_wp2_with fail
 refine H1.out.mono ?_;rintro e w1 ⟨rfl,hb1⟩
 go_wp2_with fail
 go_ret;exact ⟨rfl,hb1⟩
theorem zof (gE:Nat) (vs us:List Value) (x y:Sg) (w:World) (h:RG w vs x) (h':RG w us y) (hx:SgO x) (hy:SgO y) (ke:Blk w gE 64 #[.func (.func 20) #[] #[]]) :
  Calls Tryz.prog 24 (#[.agg vs.toArray,.agg us.toArray]++#[.pointer (some ⟨gE,0,none⟩)]) w (zBW (sgE x y) w):=by
 obtain ⟨A1,A2,A3,A4,A5,A6,A7,A8,A9,Aa,Ab,Ac,rfl,a1,a2,a3,a4⟩:=h;obtain ⟨B1,B2,B3,B4,B5,B6,B7,B8,B9,Ba,Bb,Bc,rfl,b1,b2,b3,b4⟩:=h';have e:(#[.agg ([.bool x.a.neg,.slice A1 A2 A3,.int .i64 x.a.e,.bool x.b.neg,.slice A4 A5 A6,.int .i64 x.b.e,.slice A7 A8 A9,.slice Aa Ab Ac]:List Value).toArray,.agg ([.bool y.a.neg,.slice B1 B2 B3,.int .i64 y.a.e,.bool y.b.neg,.slice B4 B5 B6,.int .i64 y.b.e,.slice B7 B8 B9,.slice Ba Bb Bc]:List Value).toArray]++#[.pointer (some ⟨gE,0,none⟩)]:Array Value)=#[.agg #[.bool x.a.neg,.slice A1 A2 A3,.int .i64 x.a.e,.bool x.b.neg,.slice A4 A5 A6,.int .i64 x.b.e,.slice A7 A8 A9,.slice Aa Ab Ac],.agg #[.bool y.a.neg,.slice B1 B2 B3,.int .i64 y.a.e,.bool y.b.neg,.slice B4 B5 B6,.int .i64 y.b.e,.slice B7 B8 B9,.slice Ba Bb Bc],.pointer (some ⟨gE,0,none⟩)]:=rfl;rw [e];clear e;have eg:∀args W,(callFunc 20 args).run Tryz.prog W=.ok (.enter 20 args) W:=zCQ Tryz.func20 (by kernel_rfl) rfl;have H1:=Zh (fun W (hb:Below w.heap.size w W)=>zIW [.bool x.a.neg,.slice A1 A2 A3,.int .i64 x.a.e] [.bool y.a.neg,.slice B1 B2 B3,.int .i64 y.a.e] x.a y.a W ⟨_,_,_,rfl,a1.below hb⟩ ⟨_,_,_,rfl,b1.below hb⟩ hx.a hy.a);have H2:=Zh (fun W (hb:Below w.heap.size w W)=>zIW [.bool x.b.neg,.slice A4 A5 A6,.int .i64 x.b.e] [.bool y.b.neg,.slice B4 B5 B6,.int .i64 y.b.e] x.b y.b W ⟨_,_,_,rfl,a2.below hb⟩ ⟨_,_,_,rfl,b2.below hb⟩ hx.b hy.b);have H3:=Zh (fun W (hb:Below w.heap.size w W)=>znM A7 B7 A8 A9 B8 B9 x.tube y.tube W (a3.next zAX hb) (b3.next zAX hb) (fun z hz=>(hx.t z hz).2) (fun z hz=>(hy.t z hz).2));have H4:=Zh (fun W (hb:Below w.heap.size w W)=>znM Aa Ba Ab Ac Bb Bc x.e y.e W (a4.next zAX hb) (b4.next zAX hb) (fun z hz=>(hx.e z hz).2) (fun z hz=>(hy.e z hz).2));have HV:Hid (sgE x y=(decide (zCH x.a y.a=0) && (decide (zCH x.b y.b=0) && (eqF ivE x.tube y.tube && eqF ivE x.e y.e)))):=rfl;generalize sgE x y=R at *;have hW1:=zAE w (.cells #[.bool x.a.neg,.slice A1 A2 A3,.int .i64 x.a.e,.bool x.b.neg,.slice A4 A5 A6,.int .i64 x.b.e,.slice A7 A8 A9,.slice Aa Ab Ac] 67);have hW2:=zAE (w.alloc (.cells #[.bool x.a.neg,.slice A1 A2 A3,.int .i64 x.a.e,.bool x.b.neg,.slice A4 A5 A6,.int .i64 x.b.e,.slice A7 A8 A9,.slice Aa Ab Ac] 67)) (.cells #[.bool y.a.neg,.slice B1 B2 B3,.int .i64 y.a.e,.bool y.b.neg,.slice B4 B5 B6,.int .i64 y.b.e,.slice B7 B8 B9,.slice Ba Bb Bc] 67);have hb0:=zAA hW1 hW2;have kx:=(Blk.new w 67 #[.bool x.a.neg,.slice A1 A2 A3,.int .i64 x.a.e,.bool x.b.neg,.slice A4 A5 A6,.int .i64 x.b.e,.slice A7 A8 A9,.slice Aa Ab Ac]).next hW2;have ky:Blk ((w.alloc (.cells #[.bool x.a.neg,.slice A1 A2 A3,.int .i64 x.a.e,.bool x.b.neg,.slice A4 A5 A6,.int .i64 x.b.e,.slice A7 A8 A9,.slice Aa Ab Ac] 67)).alloc (.cells #[.bool y.a.neg,.slice B1 B2 B3,.int .i64 y.a.e,.bool y.b.neg,.slice B4 B5 B6,.int .i64 y.b.e,.slice B7 B8 B9,.slice Ba Bb Bc] 67)) (w.heap.size+1) 67 #[.bool y.a.neg,.slice B1 B2 B3,.int .i64 y.a.e,.bool y.b.neg,.slice B4 B5 B6,.int .i64 y.b.e,.slice B7 B8 B9,.slice Ba Bb Bc]:=Blk.newAt _ _ _ (by simp);replace ke:=ke.next hb0;clear a1 a2 a3 a4 b1 b2 b3 b4 hx hy hW1 hW2;go_enter Tryz.func24,Tryz.ntmps24
 obtain ⟨p0,p1,p2,p3,p4,p5,p6,p7⟩:=kx.cells8;obtain ⟨q0,q1,q2,q3,q4,q5,q6,q7⟩:=ky.cells8;have e0:=ke.cells1;go_wp2_with fail
 generalize ((w.alloc (.cells #[.bool x.a.neg,.slice A1 A2 A3,.int .i64 x.a.e,.bool x.b.neg,.slice A4 A5 A6,.int .i64 x.b.e,.slice A7 A8 A9,.slice Aa Ab Ac] 67)).alloc (.cells #[.bool y.a.neg,.slice B1 B2 B3,.int .i64 y.a.e,.bool y.b.neg,.slice B4 B5 B6,.int .i64 y.b.e,.slice B7 B8 B9,.slice Ba Bb Bc] 67))=W0 at *;clear p0 p1 p2 p3 p4 p5 p6 p7 q0 q1 q2 q3 q4 q5 q6 q7 e0;refine (H1.out _ hb0).mono ?_;rintro e w1 ⟨rfl,hc⟩
 replace hb0:=zAA hb0 hc;replace kx:=kx.next hc;replace ky:=ky.next hc;replace ke:=ke.next hc;clear hc;generalize zCH x.a y.a=r at *;by_cases hr:r=0
 rotate_left
 ·rw [Ye hr] at HV
  have hr2:(r == 0)=false:=by rw [Xi];exact hr
  clear hr;go_wp2_with fail
  go_ret;exact ⟨by rw [HV.out];rfl,hb0⟩
 rw [Yf hr,Bool.true_and] at HV;subst hr;obtain ⟨p0,p1,p2,p3,p4,p5,p6,p7⟩:=kx.cells8;obtain ⟨q0,q1,q2,q3,q4,q5,q6,q7⟩:=ky.cells8;have e0:=ke.cells1;go_wp2_with fail
 clear p0 p1 p2 p3 p4 p5 p6 p7 q0 q1 q2 q3 q4 q5 q6 q7 e0;refine (H2.out _ hb0).mono ?_;rintro e w2 ⟨rfl,hc⟩
 replace hb0:=zAA hb0 hc;replace kx:=kx.next hc;replace ky:=ky.next hc;replace ke:=ke.next hc;clear hc;generalize zCH x.b y.b=r at *;by_cases hr:r=0
 rotate_left
 ·rw [Ye hr] at HV
  have hr2:(r == 0)=false:=by rw [Xi];exact hr
  clear hr;go_wp2_with fail
  go_ret;exact ⟨by rw [HV.out];rfl,hb0⟩
 rw [Yf hr,Bool.true_and] at HV;subst hr;obtain ⟨p0,p1,p2,p3,p4,p5,p6,p7⟩:=kx.cells8;obtain ⟨q0,q1,q2,q3,q4,q5,q6,q7⟩:=ky.cells8;have e0:=ke.cells1;go_wp2_with fail
 clear p0 p1 p2 p3 p4 p5 p6 p7 q0 q1 q2 q3 q4 q5 q6 q7 e0;refine (H3.out _ hb0).mono ?_;rintro e w3 ⟨rfl,hc⟩
 replace hb0:=zAA hb0 hc;replace kx:=kx.next hc;replace ky:=ky.next hc;replace ke:=ke.next hc;clear hc;generalize eqF ivE x.tube y.tube=r at *;cases r
 ·rw [Bool.false_and] at HV
  go_wp2_with fail
  go_ret;exact ⟨by rw [HV.out];rfl,hb0⟩
 rw [Bool.true_and] at HV;obtain ⟨p0,p1,p2,p3,p4,p5,p6,p7⟩:=kx.cells8;obtain ⟨q0,q1,q2,q3,q4,q5,q6,q7⟩:=ky.cells8;have e0:=ke.cells1;go_wp2_with fail
 clear p0 p1 p2 p3 p4 p5 p6 p7 q0 q1 q2 q3 q4 q5 q6 q7 e0;refine (H4.out _ hb0).mono ?_;rintro e w4 ⟨rfl,hc⟩
 replace hb0:=zAA hb0 hc;replace kx:=kx.next hc;replace ky:=ky.next hc;replace ke:=ke.next hc;clear hc;go_wp2_with fail
 go_ret;exact ⟨by rw [HV.out];rfl,hb0⟩
theorem zoc (vs:List Value) (x:Ct) (p:Int) (w:World) (h:RC w vs x) (hg:glo.p w) (hgb:∀b,glo.B b->b<w.heap.size):Calls Tryz.prog 6 #[.agg vs.toArray,.int .i64 p] w (zBW true w):=by
 have hmf:∀ (fn:Fn) (first cap:Array Value) (w:World),(Instr.makeFunc fn first cap).run Tryz.prog w=.ok (.func fn first cap) w:=fun _ _ _ _=>rfl
 have eg:∀args W,(callFunc 20 args).run Tryz.prog W=.ok (.enter 20 args) W:=zCQ Tryz.func20 (by kernel_rfl) rfl;have hr:=h;obtain ⟨xA,xn,xc,xB,xm,xd,xC,xp,xq,xL,xln,xlc,rfl,-,-,-,-⟩:=h;obtain ⟨lg,hlg⟩:∃lg,hgC x=lg:=⟨_,rfl⟩;have hln:lg=false->x.links.length<=1000:=fun e=>by
  have h1:=hlg.trans e;unfold hgC at h1;rw [Xd,Xd] at h1;have:=of_decide_eq_false h1.1.1;omega
 have HA:=Zh (fun W (hb:Below w.heap.size w W)=>zEW W (zCq hg hgb hb).1 (zCq hg hgb hb).2);have H1:=Zh (fun W (hb:Below w.heap.size w W)=>zLr _ x W (zAm w W _ _ hr hb));have H2:=Zh (fun (hl:lg=false) W (hb:Below w.heap.size w W)=>zot _ x p W (zAm w W _ _ hr hb) (zPr (hlg.trans hl)) (hln hl) (zCq hg hgb hb).1.1);have H3:=Zh (fun (hl:lg=false) W (hb:Below w.heap.size w W)=>zBe _ x W (zAm w W _ _ hr hb) (zPr (hlg.trans hl)) (zCq hg hgb hb).1.1);have H4:=Zh (fun (hl:lg=false) W (hb:Below w.heap.size w W)=>zmr _ x W (zAm w W _ _ hr hb) (hln hl));have H5:=Zh (fun (hl:lg=false) (us:List Value) W (hb:Below w.heap.size w W) (hv:ctV x=true) (h:RT W us (trP x))=>znw us (trP x) _ _ p W h (zoY hv (zPr (hlg.trans hl))) (zCq hg hgb hb).1.1);have HLM:=Zh (fun (hv:ctV x=true) (hl:lg=false)=>And.intro (zoG (p:=p) (zoY hv (zPr (hlg.trans hl))) (fun d hd=>by
  obtain ⟨y,hy,rfl⟩:=List.mem_map.1 (show d∈x.links.map Lk.h from hd);exact ((zIz hr).l y hy).h)) (zo6 (p:=p) (zoY hv (zPr (hlg.trans hl))) (fun d hd=>by
  obtain ⟨y,hy,rfl⟩:=List.mem_map.1 (show d∈x.links.map Lk.h from hd);exact ((zIz hr).l y hy).h)))
 have HPP:Hid (znu x p=if ctV x=true then znE (trP x) p else (([],[]),1)):=rfl;obtain ⟨cv,hcv⟩:∃cv,ctV x=cv:=⟨_,rfl⟩;rw [hlg] at H1;rw [hcv] at H3 HPP HLM H5;generalize znE (trP x) p=Q at *;generalize znu x p=PP at *;clear hr hlg hg hgb hln hcv;have hb0:=zAE w (.cells #[.int .i64 x.prec,.int .i64 x.order,.slice xA xn xc,.slice xB xm xd,.slice xC xp xq,.slice xL xln xlc] 29);have kx:=Blk.new w 29 #[.int .i64 x.prec,.int .i64 x.order,.slice xA xn xc,.slice xB xm xd,.slice xC xp xq,.slice xL xln xlc];go_enter Tryz.func6,Tryz.ntmps6
 go_wp2_with fail
 generalize w.alloc (.cells #[.int .i64 x.prec,.int .i64 x.order,.slice xA xn xc,.slice xB xm xd,.slice xC xp xq,.slice xL xln xlc] 29)=W0 at *;refine (HA.out _ hb0).mono ?_;rintro e w1 ⟨rfl,hb1⟩
 replace kx:=kx.next hb1;replace hb0:=zAA hb0 hb1;clear hb1 HA;obtain ⟨q0,q1,q2,q3,q4,q5⟩:=kx.cells6;go_wp2_with fail
 refine (H1.out _ hb0).mono ?_;rintro e w2 ⟨rfl,hb1⟩
 clear q0 q1 q2 q3 q4 q5;replace kx:=kx.next hb1;replace hb0:=zAA hb0 hb1;clear hb1 H1;cases lg;rotate_left
 ·go_wp2_with fail
  go_ret;exact ⟨rfl,hb0⟩
 replace H2:=Zh (H2.out rfl);replace H3:=Zh (H3.out rfl);replace H4:=Zh (H4.out rfl);replace H5:=Zh (H5.out rfl);obtain ⟨q0,q1,q2,q3,q4,q5⟩:=kx.cells6;have hp:(80<p/\p<=512)\/(¬ 80<p)\/(80<p/\¬ p<=512):=by omega
 rcases hp with ⟨hp1,hp2⟩ | hp
 ·go_wp2_with fail
  go_ret;exact ⟨rfl,hb0⟩
 obtain ⟨⟨s,gs⟩,kk⟩:=PP;rcases hp with hp | ⟨hp1,hp2⟩
 all_goals
  go_wp2_with fail
  refine (H2.out _ hb0).mono ?_;rintro e w3 ⟨A,n,c,B,m,d,rfl,hs1,hs2,hb1⟩
  dsimp only at hs1 hs2;clear q0 q1 q2 q3 q4 q5 H2;have hb2:=zAE w3 (.cells #[.slice A n c,.slice B m d] 58);have ky:=Blk.new w3 58 #[.slice A n c,.slice B m d];replace kx:=(kx.next hb1).next hb2;replace hb0:=zAA (zAA hb0 hb1) hb2;have HS1:=Zh (hs1.next zAX hb2);have HS2:=Zh (hs2.next zln hb2);have m1:=hs1.cap;have m2:=hs1.max;have m3:=hs2.cap;have m4:=hs2.max;clear hs1 hs2 hb1 hb2;obtain ⟨q0,q1,q2,q3,q4,q5⟩:=kx.cells6;go_wp2_with fail
  clear q0 q1 q2 q3 q4 q5;generalize w3.alloc (.cells #[.slice A n c,.slice B m d] 58)=W1 at *;refine (H3.out _ hb0).mono ?_;rintro e w4 ⟨rfl,hb1⟩
  replace kx:=kx.next hb1;replace ky:=ky.next hb1;replace hb0:=zAA hb0 hb1;replace HS1:=Zh (HS1.out.next zAX hb1);replace HS2:=Zh (HS2.out.next zln hb1);clear hb1 H3;cases cv
  ·have HP:Hid (((s,gs),kk)=((([],[]),1):(List Iv×List Sg)×Int)):=HPP.out
   cases HP;obtain rfl:n=0:=by have:=HS1.out.len;simpa using this.symm
   obtain rfl:m=0:=by have:=HS2.out.len;simpa using this.symm
   obtain ⟨r0,r1⟩:=ky.cells2;go_wp2_with fail
   go_ret;exact ⟨rfl,hb0⟩
  ·have HP:Hid (((s,gs),kk)=Q):=HPP.out
   have HL:=Zh (HLM.out (by trivial) (by trivial));rw [<- HP.out] at HL H5;clear HP HPP HLM;obtain ⟨q0,q1,q2,q3,q4,q5⟩:=kx.cells6;go_wp2_with fail
   clear q0 q1 q2 q3 q4 q5 kx;refine (H4.out _ hb0).mono ?_;rintro e w5 ⟨us,rfl,-,hrt,hb1⟩
   replace ky:=ky.next hb1;replace hb0:=zAA hb0 hb1;replace HS1:=Zh (HS1.out.next zAX hb1);replace HS2:=Zh (HS2.out.next zln hb1);have HRT:=Zh hrt;clear hb1 H4 hrt;go_wp2_with fail
   refine (H5.out us _ hb0 (by trivial) HRT.out).mono ?_;rintro e w6 ⟨A',n',c',B',m',d',rfl,ht1,ht2,hb1⟩
   dsimp only at ht1 ht2;have hb2:=zAE w6 (.cells #[.slice A' n' c',.slice B' m' d'] 58);have hb3:=zAE (w6.alloc (.cells #[.slice A' n' c',.slice B' m' d'] 58)) (.cells #[.func (.func 20) #[] #[]] 64);have hb4:=zAA (zAA hb1 hb2) hb3;have kz:=(Blk.new w6 58 #[.slice A' n' c',.slice B' m' d']).next hb3;have ke:Blk ((w6.alloc (.cells #[.slice A' n' c',.slice B' m' d'] 58)).alloc (.cells #[.func (.func 20) #[] #[]] 64)) (w6.heap.size+1) 64 #[.func (.func 20) #[] #[]]:=Blk.newAt _ _ _ (by simp);replace ky:=ky.next hb4;replace hb0:=zAA hb0 hb4;replace HS1:=Zh (HS1.out.next zAX hb4);replace HS2:=Zh (HS2.out.next zln hb4);have HT1:=Zh ((ht1.next zAX hb2).next zAX hb3);have HT2:=Zh ((ht2.next zln hb2).next zln hb3);have m5:=ht1.cap;have m6:=ht1.max;have m7:=ht2.cap;have m8:=ht2.max;have hkk:(kk == kk)=true:=by simp
   clear hb1 hb2 hb3 hb4 ht1 ht2 H5 HRT;obtain ⟨r0,r1⟩:=ky.cells2;obtain ⟨s0,s1⟩:=kz.cells2;have e0:=ke.cells1;go_wp2_with fail
   clear r0 r1 s0 s1 e0;generalize (w6.alloc (.cells #[.slice A' n' c',.slice B' m' d'] 58)).alloc (.cells #[.func (.func 20) #[] #[]] 64)=W2 at *;refine (znM A A' n c n' c' s s W2 HS1.out HT1.out (fun z hz=>(HL.out.1.1 z hz).2) (fun z hz=>(HL.out.1.1 z hz).2)).mono ?_;rw [HL.out.2.1];rintro e w7 ⟨rfl,hb1⟩
   replace ky:=ky.next hb1;replace kz:=kz.next hb1;replace ke:=ke.next hb1;replace hb0:=zAA hb0 hb1;replace HS2:=Zh (HS2.out.next zln hb1);replace HT2:=Zh (HT2.out.next zln hb1);clear hb1 HS1 HT1;obtain ⟨r0,r1⟩:=ky.cells2;obtain ⟨s0,s1⟩:=kz.cells2;go_wp2_with fail
   clear r0 r1 s0 s1;refine (zoA sgE 24 #[.pointer (some ⟨w6.heap.size+1,0,none⟩)] B B' m d m' d' gs gs w7 HS2.out HT2.out (zCQ Tryz.func24 (by kernel_rfl) rfl) (fun V vs us a b hbV ha hb hra hrb=>zof (w6.heap.size+1) vs us a b V hra hrb (HL.out.1.2 a ha) (HL.out.1.2 b hb) (ke.next hbV))).mono ?_;rw [HL.out.2.2];rintro e w8 ⟨rfl,hb1⟩
   replace hb0:=zAA hb0 hb1;clear hb1 ky kz ke HS2 HT2;go_wp2_with fail
   go_ret;exact ⟨rfl,hb0⟩
end Go.Proofs.YtchkfjgcbbbffaaGreatDoor
end
