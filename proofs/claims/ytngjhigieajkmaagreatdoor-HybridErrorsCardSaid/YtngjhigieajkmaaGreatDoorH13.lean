/- Bundle 13: what the law's walk stands on: U2, U5, U7, Red, U8, U9, U6, U15. -/
import Derived.RangeFuncNested
import Derived.Test.YtngjhigieajkmaaGreatDoorProg
import Derived.Deep.RegionHeld
import Derived.Lib.Hide
import Derived.RangeFuncBound
import Derived.RangeFuncCalls
import Derived.RangeFuncLeaves
import Derived.Shelf.Abstract
import Derived.Shelf.RegionOpen
import Derived.WalkKit
import Derived.OwnWalkIn
import Derived.TacticsInMore
import Derived.LoopNIn
import Derived.LoopIn
import Derived.Maps.AppendAt
import Derived.Laws.EntriesVeiled
import Derived.Test.YtngjhigieajkmaaGreatDoorH5
import Derived.Test.YtngjhigieajkmaaGreatDoorH8
import Derived.Test.YtngjhigieajkmaaGreatDoorH12
set_option maxRecDepth 100000
set_option maxHeartbeats 20000000
set_option linter.all false
noncomputable section
namespace Go.Proofs.YtngjhigieajkmaaGreatDoor
open Go.RowKit Pl
abbrev Ret (R:Bool->World->Prop):Ending->World->Prop:=fun e w'=>∃t,e=.returned (.bool t)/\R t w'
theorem zDJ {f:Nat}{fn:Func}{c:Code}(hfn:Tryz.prog.funcs[f]? = some fn) (hname:(fn.name == "runtime.NumGoroutine")=false) (hb:fn.body=some c):∀args W,(callFunc f args).run Tryz.prog W=.ok (.enter f args) W:=by
 intro args W;have hname':¬ fn.name = "runtime.NumGoroutine":=by simpa using hname
 simp [callFunc,hfn,hname',hb]
theorem zuF {us:List Value}(h:us.length=3):∃v0 v1 v2,us=[v0,v1,v2]:=by
 obtain _ | ⟨v0,us⟩:=us
 ·simp at h
 obtain _ | ⟨v1,us⟩:=us
 ·simp at h
 obtain _ | ⟨v2,us⟩:=us
 ·simp at h
 obtain _ | ⟨u,us⟩:=us
 ·exact ⟨v0,v1,v2,rfl⟩
 ·simp at h
theorem zuG {us:List Value}(h:us.length=5):∃v0 v1 v2 v3 v4,us=[v0,v1,v2,v3,v4]:=by
 obtain _ | ⟨v0,us⟩:=us
 ·simp at h
 obtain _ | ⟨v1,us⟩:=us
 ·simp at h
 obtain _ | ⟨v2,us⟩:=us
 ·simp at h
 obtain _ | ⟨v3,us⟩:=us
 ·simp at h
 obtain _ | ⟨v4,us⟩:=us
 ·simp at h
 obtain _ | ⟨u,us⟩:=us
 ·exact ⟨v0,v1,v2,v3,v4,rfl⟩
 ·simp at h
theorem zrj {us:List Value}(h:us.length=6):∃v0 v1 v2 v3 v4 v5,us=[v0,v1,v2,v3,v4,v5]:=by
 obtain _ | ⟨v0,us⟩:=us
 ·simp at h
 obtain _ | ⟨v1,us⟩:=us
 ·simp at h
 obtain _ | ⟨v2,us⟩:=us
 ·simp at h
 obtain _ | ⟨v3,us⟩:=us
 ·simp at h
 obtain _ | ⟨v4,us⟩:=us
 ·simp at h
 obtain _ | ⟨v5,us⟩:=us
 ·simp at h
 obtain _ | ⟨u,us⟩:=us
 ·exact ⟨v0,v1,v2,v3,v4,v5,rfl⟩
 ·simp at h
theorem zsk {us:List Value}(h:us.length=7):∃v0 v1 v2 v3 v4 v5 v6,us=[v0,v1,v2,v3,v4,v5,v6]:=by
 obtain _ | ⟨v0,us⟩:=us
 ·simp at h
 obtain _ | ⟨v1,us⟩:=us
 ·simp at h
 obtain _ | ⟨v2,us⟩:=us
 ·simp at h
 obtain _ | ⟨v3,us⟩:=us
 ·simp at h
 obtain _ | ⟨v4,us⟩:=us
 ·simp at h
 obtain _ | ⟨v5,us⟩:=us
 ·simp at h
 obtain _ | ⟨v6,us⟩:=us
 ·simp at h
 obtain _ | ⟨u,us⟩:=us
 ·exact ⟨v0,v1,v2,v3,v4,v5,v6,rfl⟩
 ·simp at h
theorem zuH {us:List Value}(h:us.length=9):∃v0 v1 v2 v3 v4 v5 v6 v7 v8,us=[v0,v1,v2,v3,v4,v5,v6,v7,v8]:=by
 obtain _ | ⟨v0,us⟩:=us
 ·simp at h
 obtain _ | ⟨v1,us⟩:=us
 ·simp at h
 obtain _ | ⟨v2,us⟩:=us
 ·simp at h
 obtain _ | ⟨v3,us⟩:=us
 ·simp at h
 obtain _ | ⟨v4,us⟩:=us
 ·simp at h
 obtain _ | ⟨v5,us⟩:=us
 ·simp at h
 obtain _ | ⟨v6,us⟩:=us
 ·simp at h
 obtain _ | ⟨v7,us⟩:=us
 ·simp at h
 obtain _ | ⟨v8,us⟩:=us
 ·simp at h
 obtain _ | ⟨u,us⟩:=us
 ·exact ⟨v0,v1,v2,v3,v4,v5,v6,v7,v8,rfl⟩
 ·simp at h
theorem zw0 (A:Option Addr) (n c:Nat) (g:Nat) (lb:Array Value) (w:World) (J:Nat->World->Prop) (S:World->Prop) (hn:n<=c) (hm:c<=9223372036854775807)
  (eg:∀args W,(callFunc g args).run Tryz.prog W=.ok (.enter g args) W)
  (hE:∀j,j<n->∃ (b off:Nat) (us:List Value),A=some ⟨b,off,none⟩/\us.length=6/\∀W,J j W->(∀ (i:Nat) (v:Value),us[i]? = some v->W.cell? ⟨b,off+j*6+i,none⟩=some v)/\Calls Tryz.prog g (#[.agg us.toArray]++lb) W (Ret fun t W'=>if t=true then S W' else J (j+1) W'))
  (h0:J 0 w) :
  Calls Tryz.prog 334 #[.slice A n c,.func (.func g) #[] lb] w fun e W'=>∃i:Int,e=.returned (.int .i64 i)/\((i<0/\J n W')\/(0<=i/\S W')):=by
 have HE:=Zh hE;clear hE;go_enter Tryz.func334,Tryz.ntmps334
 go_wp2_with fail
 go_loopw [8] (fun i wr=>∃j:Nat,j<=n/\i=.int .i64 j/\J j wr) (fun i _=>n - (intOf i).toNat)
 case atStart=>exact ⟨0,Nat.zero_le _,rfl,h0⟩
 case round=>
  obtain ⟨j,hj,rfl,hJ⟩:=hrel;by_cases hlt:j<n
  ·obtain ⟨b,off,us,rfl,hk,h1⟩:=HE.out j hlt
   obtain ⟨hc,hcall⟩:=h1 wr hJ;obtain ⟨v0,v1,v2,v3,v4,v5,rfl⟩:=zrj hk;have q0:=hc 0 _ rfl;have q1:=hc 1 _ rfl;have q2:=hc 2 _ rfl;have q3:=hc 3 _ rfl;have q4:=hc 4 _ rfl;have q5:=hc 5 _ rfl;have HP:=Zh hcall;clear hc hcall h1 HE hk;rw [Nat.add_zero] at q0;go_wp2_with fail
   refine HP.out.mono ?_;rintro e w' ⟨t,rfl,hR⟩
   cases t
   ·go_wp2_with fail
    go_roundw
    case rel=>exact ⟨j+1,by omega,by go_num,by simpa using hR⟩
    case measure=>simp [intOf];omega
   ·go_wp2_with fail
    go_ret;exact ⟨j,rfl,.inr ⟨by omega,by simpa using hR⟩⟩
  ·obtain rfl:j=n:=by omega
   go_wp2_with fail
   go_ret;exact ⟨-1,rfl,.inl ⟨by omega,hJ⟩⟩
theorem zvq (A:Option Addr) (n c:Nat) (g:Nat) (lb:Array Value) (w:World) (J:Nat->World->Prop) (S:World->Prop) (hn:n<=c) (hm:c<=9223372036854775807)
  (eg:∀args W,(callFunc g args).run Tryz.prog W=.ok (.enter g args) W)
  (hE:∀j,j<n->∃ (b off:Nat) (us:List Value),A=some ⟨b,off,none⟩/\us.length=6/\∀W,J j W->(∀ (i:Nat) (v:Value),us[i]? = some v->W.cell? ⟨b,off+j*6+i,none⟩=some v)/\Calls Tryz.prog g (#[.agg us.toArray]++lb) W (Ret fun t W'=>if t=true then S W' else J (j+1) W'))
  (h0:J 0 w) :
  Calls Tryz.prog 291 #[.slice A n c,.func (.func g) #[] lb] w (Ret fun t W'=>if t=true then S W' else J n W'):=by
 have HC:=Zh (zw0 A n c g lb w J S hn hm eg hE h0);clear hE;go_enter Tryz.func291,Tryz.ntmps291
 go_wp2_with fail
 refine HC.out.mono ?_;rintro e w' ⟨i,rfl,hR⟩
 go_wp2_with fail
 go_ret;refine ⟨_,rfl,?_⟩;rcases hR with ⟨hi,hR⟩ | ⟨hi,hR⟩
 ·rw [if_neg (by simpa using hi)];exact hR
 ·rw [if_pos (by simpa using hi)];exact hR
theorem zuZ (A:Option Addr) (n c:Nat) (g:Nat) (lb:Array Value) (w:World) (J:Nat->World->Prop) (S:World->Prop) (T:World->World->Prop) (hn:n<=c) (hm:c<=9223372036854775807)
  (eg:∀args W,(callFunc g args).run Tryz.prog W=.ok (.enter g args) W)
  (hJa:∀j W o,J j W->J j (W.alloc o)) (hr:∀W,T W W) (ht:∀U V W,T U V->T V W->T U W) (ha:∀W o,T W (W.alloc o))
  (hp:∀ty W,T (w.alloc (.cells #[.func (.func g) #[] lb] ty)) W->W.cell? ⟨w.heap.size,0,none⟩=some (.func (.func g) #[] lb))
  (hE:∀j,j<n->∃ (b off:Nat) (us:List Value),A=some ⟨b,off,none⟩/\us.length=6/\∀W,J j W->(∀ (i:Nat) (v:Value),us[i]? = some v->W.cell? ⟨b,off+j*6+i,none⟩=some v)/\Calls Tryz.prog g (#[.agg us.toArray]++lb) W (Ret fun t W'=>if t=true then J (j+1) W'/\T W W' else S W'))
  (h0:J 0 w) :
  Calls Tryz.prog 335 #[.slice A n c,.func (.func g) #[] lb] w (Ret fun t W'=>if t=true then J n W'/\T w W' else S W'):=by
 have HE:=Zh hE;have HP:=Zh hp;have key:∀ty,Calls Tryz.prog 291 #[.slice A n c,.func (.func 371) #[] #[.pointer (some ⟨w.heap.size,0,none⟩)]] (w.alloc (.cells #[.func (.func g) #[] lb] ty)) (Ret fun t W'=>if t=true then S W' else J n W'/\T (w.alloc (.cells #[.func (.func g) #[] lb] ty)) W'):=fun ty=>by
  refine zvq A n c 371 #[.pointer (some ⟨w.heap.size,0,none⟩)] _ (fun j W=>J j W/\T (w.alloc (.cells #[.func (.func g) #[] lb] ty)) W) S hn hm (zDJ Tryz.func371 (by kernel_rfl) rfl) (fun j hj=>?_) ⟨hJa _ _ _ h0,hr _⟩;obtain ⟨b,off,us,rfl,hk,h1⟩:=HE.out j hj;refine ⟨b,off,us,rfl,hk,fun W hW=>⟨(h1 W hW.1).1,?_⟩⟩;obtain ⟨v0,v1,v2,v3,v4,v5,rfl⟩:=zrj hk;have q:=HP.out ty W hW.2;have key2:∀ty2,Calls Tryz.prog g (#[.agg #[v0,v1,v2,v3,v4,v5]]++lb) (W.alloc (.cells #[v0,v1,v2,v3,v4,v5] ty2)) (Ret fun t W'=>if t=true then J (j+1) W'/\T (W.alloc (.cells #[v0,v1,v2,v3,v4,v5] ty2)) W' else S W'):=fun ty2=>(h1 _ (hJa _ _ _ hW.1)).2
  clear h1 hE hp HE HP;have hTT:=hW.2;have hh:∀ty2,(W.alloc (.cells #[v0,v1,v2,v3,v4,v5] ty2)).cell? ⟨w.heap.size,0,none⟩=some (.func (.func g) #[] lb):=fun ty2=>cell_kept q (World.grownBy_alloc W _ none) (fun r e=>by cases e)
  have q':=hh 82;have HN:=Blk.new W 82 #[v0,v1,v2,v3,v4,v5];have p0:=HN.cell 0;have p1:=HN.cell 1;have p2:=HN.cell 2;have p3:=HN.cell 3;have p4:=HN.cell 4;have p5:=HN.cell 5;have HK:=Zh key2;clear key2 hh;go_enter Tryz.func371,Tryz.ntmps371
  go_wp2_with fail
  refine (HK.out _).mono ?_;rintro e w' ⟨t,rfl,hR⟩
  go_wp2_with fail
  go_ret;refine ⟨_,rfl,?_⟩;cases t
  ·simpa using hR
  ·simp only [if_true] at hR
   simpa using ⟨hR.1,ht _ _ _ hTT (ht _ _ _ (ha _ _) hR.2)⟩
 have HK:=Zh key;clear hE hp HE HP key;go_enter Tryz.func335,Tryz.ntmps335
 go_wp2_with fail
 refine (HK.out _).mono ?_;rintro e w' ⟨t,rfl,hR⟩
 go_wp2_with fail
 go_ret;refine ⟨_,rfl,?_⟩;cases t
 ·simp only [Bool.false_eq_true,if_false] at hR
  simpa using ⟨hR.1,ht _ _ _ (ha _ _) hR.2⟩
 ·simpa using hR
theorem zwv (A:Option Addr) (n c:Nat) (g:Nat) (lb:Array Value) (w:World) (J:Nat->World->Prop) (S:World->Prop) (hn:n<=c) (hm:c<=9223372036854775807)
  (eg:∀args W,(callFunc g args).run Tryz.prog W=.ok (.enter g args) W)
  (hE:∀j,j<n->∃ (b off:Nat) (us:List Value),A=some ⟨b,off,none⟩/\us.length=5/\∀W,J j W->(∀ (i:Nat) (v:Value),us[i]? = some v->W.cell? ⟨b,off+j*5+i,none⟩=some v)/\Calls Tryz.prog g (#[.agg us.toArray]++lb) W (Ret fun t W'=>if t=true then S W' else J (j+1) W'))
  (h0:J 0 w) :
  Calls Tryz.prog 124 #[.slice A n c,.func (.func g) #[] lb] w fun e W'=>∃i:Int,e=.returned (.int .i64 i)/\((i<0/\J n W')\/(0<=i/\S W')):=by
 have HE:=Zh hE;clear hE;go_enter Tryz.func124,Tryz.ntmps124
 go_wp2_with fail
 go_loopw [8] (fun i wr=>∃j:Nat,j<=n/\i=.int .i64 j/\J j wr) (fun i _=>n - (intOf i).toNat)
 case atStart=>exact ⟨0,Nat.zero_le _,rfl,h0⟩
 case round=>
  obtain ⟨j,hj,rfl,hJ⟩:=hrel;by_cases hlt:j<n
  ·obtain ⟨b,off,us,rfl,hk,h1⟩:=HE.out j hlt
   obtain ⟨hc,hcall⟩:=h1 wr hJ;obtain ⟨v0,v1,v2,v3,v4,rfl⟩:=zuG hk;have q0:=hc 0 _ rfl;have q1:=hc 1 _ rfl;have q2:=hc 2 _ rfl;have q3:=hc 3 _ rfl;have q4:=hc 4 _ rfl;have HP:=Zh hcall;clear hc hcall h1 HE hk;rw [Nat.add_zero] at q0;go_wp2_with fail
   refine HP.out.mono ?_;rintro e w' ⟨t,rfl,hR⟩
   cases t
   ·go_wp2_with fail
    go_roundw
    case rel=>exact ⟨j+1,by omega,by go_num,by simpa using hR⟩
    case measure=>simp [intOf];omega
   ·go_wp2_with fail
    go_ret;exact ⟨j,rfl,.inr ⟨by omega,by simpa using hR⟩⟩
  ·obtain rfl:j=n:=by omega
   go_wp2_with fail
   go_ret;exact ⟨-1,rfl,.inl ⟨by omega,hJ⟩⟩
theorem zwq (A:Option Addr) (n c:Nat) (g:Nat) (lb:Array Value) (w:World) (J:Nat->World->Prop) (S:World->Prop) (hn:n<=c) (hm:c<=9223372036854775807)
  (eg:∀args W,(callFunc g args).run Tryz.prog W=.ok (.enter g args) W)
  (hE:∀j,j<n->∃ (b off:Nat) (us:List Value),A=some ⟨b,off,none⟩/\us.length=5/\∀W,J j W->(∀ (i:Nat) (v:Value),us[i]? = some v->W.cell? ⟨b,off+j*5+i,none⟩=some v)/\Calls Tryz.prog g (#[.agg us.toArray]++lb) W (Ret fun t W'=>if t=true then S W' else J (j+1) W'))
  (h0:J 0 w) :
  Calls Tryz.prog 201 #[.slice A n c,.func (.func g) #[] lb] w (Ret fun t W'=>if t=true then S W' else J n W'):=by
 have HC:=Zh (zwv A n c g lb w J S hn hm eg hE h0);clear hE;go_enter Tryz.func201,Tryz.ntmps201
 go_wp2_with fail
 refine HC.out.mono ?_;rintro e w' ⟨i,rfl,hR⟩
 go_wp2_with fail
 go_ret;refine ⟨_,rfl,?_⟩;rcases hR with ⟨hi,hR⟩ | ⟨hi,hR⟩
 ·rw [if_neg (by simpa using hi)];exact hR
 ·rw [if_pos (by simpa using hi)];exact hR
theorem zuU (A:Option Addr) (n c:Nat) (g:Nat) (lb:Array Value) (w:World) (J:Nat->World->Prop) (S:World->Prop) (T:World->World->Prop) (hn:n<=c) (hm:c<=9223372036854775807)
  (eg:∀args W,(callFunc g args).run Tryz.prog W=.ok (.enter g args) W)
  (hJa:∀j W o,J j W->J j (W.alloc o)) (hr:∀W,T W W) (ht:∀U V W,T U V->T V W->T U W) (ha:∀W o,T W (W.alloc o))
  (hp:∀ty W,T (w.alloc (.cells #[.func (.func g) #[] lb] ty)) W->W.cell? ⟨w.heap.size,0,none⟩=some (.func (.func g) #[] lb))
  (hE:∀j,j<n->∃ (b off:Nat) (us:List Value),A=some ⟨b,off,none⟩/\us.length=5/\∀W,J j W->(∀ (i:Nat) (v:Value),us[i]? = some v->W.cell? ⟨b,off+j*5+i,none⟩=some v)/\Calls Tryz.prog g (#[.agg us.toArray]++lb) W (Ret fun t W'=>if t=true then J (j+1) W'/\T W W' else S W'))
  (h0:J 0 w) :
  Calls Tryz.prog 143 #[.slice A n c,.func (.func g) #[] lb] w (Ret fun t W'=>if t=true then J n W'/\T w W' else S W'):=by
 have HE:=Zh hE;have HP:=Zh hp;have key:∀ty,Calls Tryz.prog 201 #[.slice A n c,.func (.func 202) #[] #[.pointer (some ⟨w.heap.size,0,none⟩)]] (w.alloc (.cells #[.func (.func g) #[] lb] ty)) (Ret fun t W'=>if t=true then S W' else J n W'/\T (w.alloc (.cells #[.func (.func g) #[] lb] ty)) W'):=fun ty=>by
  refine zwq A n c 202 #[.pointer (some ⟨w.heap.size,0,none⟩)] _ (fun j W=>J j W/\T (w.alloc (.cells #[.func (.func g) #[] lb] ty)) W) S hn hm (zDJ Tryz.func202 (by kernel_rfl) rfl) (fun j hj=>?_) ⟨hJa _ _ _ h0,hr _⟩;obtain ⟨b,off,us,rfl,hk,h1⟩:=HE.out j hj;refine ⟨b,off,us,rfl,hk,fun W hW=>⟨(h1 W hW.1).1,?_⟩⟩;obtain ⟨v0,v1,v2,v3,v4,rfl⟩:=zuG hk;have q:=HP.out ty W hW.2;have key2:∀ty2,Calls Tryz.prog g (#[.agg #[v0,v1,v2,v3,v4]]++lb) (W.alloc (.cells #[v0,v1,v2,v3,v4] ty2)) (Ret fun t W'=>if t=true then J (j+1) W'/\T (W.alloc (.cells #[v0,v1,v2,v3,v4] ty2)) W' else S W'):=fun ty2=>(h1 _ (hJa _ _ _ hW.1)).2
  clear h1 hE hp HE HP;have hTT:=hW.2;have hh:∀ty2,(W.alloc (.cells #[v0,v1,v2,v3,v4] ty2)).cell? ⟨w.heap.size,0,none⟩=some (.func (.func g) #[] lb):=fun ty2=>cell_kept q (World.grownBy_alloc W _ none) (fun r e=>by cases e)
  have q':=hh 94;have HN:=Blk.new W 94 #[v0,v1,v2,v3,v4];have p0:=HN.cell 0;have p1:=HN.cell 1;have p2:=HN.cell 2;have p3:=HN.cell 3;have p4:=HN.cell 4;have HK:=Zh key2;clear key2 hh;go_enter Tryz.func202,Tryz.ntmps202
  go_wp2_with fail
  refine (HK.out _).mono ?_;rintro e w' ⟨t,rfl,hR⟩
  go_wp2_with fail
  go_ret;refine ⟨_,rfl,?_⟩;cases t
  ·simpa using hR
  ·simp only [if_true] at hR
   simpa using ⟨hR.1,ht _ _ _ hTT (ht _ _ _ (ha _ _) hR.2)⟩
 have HK:=Zh key;clear hE hp HE HP key;go_enter Tryz.func143,Tryz.ntmps143
 go_wp2_with fail
 refine (HK.out _).mono ?_;rintro e w' ⟨t,rfl,hR⟩
 go_wp2_with fail
 go_ret;refine ⟨_,rfl,?_⟩;cases t
 ·simp only [Bool.false_eq_true,if_false] at hR
  simpa using ⟨hR.1,ht _ _ _ (ha _ _) hR.2⟩
 ·simpa using hR
theorem zvo {α:Type}{R:World->List Value->α->Prop}(hR:zJM R) {A:Option Addr}{n c:Nat}{xs:List α}(g:Nat) (lb:Array Value) (w:World) (h:Sl 5 R w A n c xs)
  (eg:∀args W,(callFunc g args).run Tryz.prog W=.ok (.enter g args) W)
  (hp:∀W us x,Below w.heap.size w W->x∈xs->R W us x->Calls Tryz.prog g (#[.agg us.toArray]++lb) W (zBW true W)) :
  Calls Tryz.prog 143 #[.slice A n c,.func (.func g) #[] lb] w (zBW true w):=by
 refine (zuU A n c g lb w (fun _ W=>Below w.heap.size w W) (fun _=>False) (fun A B=>Below A.heap.size A B) h.cap h.max eg (fun _ W o hb=>zAA hb (zAE _ _)) (fun W=>Yp _ _) (fun _ _ _=>zAA) (fun W o=>zAE _ _)
  (fun ty W hT=>by have:=(Blk.new w ty #[.func (.func g) #[] lb]).below hT (Blk.new w ty #[.func (.func g) #[] lb]).lt;exact this.cell 0) (fun j hj=>?_) (Yp _ _)).mono ?_
 ·obtain ⟨b,off,x,vs,rfl,hb,hx,hk,hRx,hc⟩:=h.get hj
  refine ⟨b,off,vs,rfl,hk,fun W hW=>⟨fun i v hi=>(hW.cell (p:=⟨b,off+j*5+i,none⟩) hb).trans (hc i v hi),?_⟩⟩;refine (hp W vs x hW (Yk hx) (hR _ _ _ _ hRx hW)).mono ?_;rintro e W' ⟨rfl,hb'⟩
  exact ⟨true,rfl,by simpa using ⟨zAA hW hb',hb'⟩⟩
 ·rintro e W' ⟨t,rfl,h⟩
  cases t
  ·simp at h
  ·simp only [if_true] at h
   exact ⟨rfl,h.1⟩
theorem zwx (A:Option Addr) (n c:Nat) (g:Nat) (lb:Array Value) (w:World) (J:Nat->World->Prop) (S:World->Prop) (hn:n<=c) (hm:c<=9223372036854775807)
  (eg:∀args W,(callFunc g args).run Tryz.prog W=.ok (.enter g args) W)
  (hE:∀j,j<n->∃ (b off:Nat) (us:List Value),A=some ⟨b,off,none⟩/\us.length=3/\∀W,J j W->(∀ (i:Nat) (v:Value),us[i]? = some v->W.cell? ⟨b,off+j*3+i,none⟩=some v)/\Calls Tryz.prog g (#[.agg us.toArray]++lb) W (Ret fun t W'=>if t=true then S W' else J (j+1) W'))
  (h0:J 0 w) :
  Calls Tryz.prog 101 #[.slice A n c,.func (.func g) #[] lb] w fun e W'=>∃i:Int,e=.returned (.int .i64 i)/\((i<0/\J n W')\/(0<=i/\S W')):=by
 have HE:=Zh hE;clear hE;go_enter Tryz.func101,Tryz.ntmps101
 go_wp2_with fail
 go_loopw [8] (fun i wr=>∃j:Nat,j<=n/\i=.int .i64 j/\J j wr) (fun i _=>n - (intOf i).toNat)
 case atStart=>exact ⟨0,Nat.zero_le _,rfl,h0⟩
 case round=>
  obtain ⟨j,hj,rfl,hJ⟩:=hrel;by_cases hlt:j<n
  ·obtain ⟨b,off,us,rfl,hk,h1⟩:=HE.out j hlt
   obtain ⟨hc,hcall⟩:=h1 wr hJ;obtain ⟨v0,v1,v2,rfl⟩:=zuF hk;have q0:=hc 0 _ rfl;have q1:=hc 1 _ rfl;have q2:=hc 2 _ rfl;have HP:=Zh hcall;clear hc hcall h1 HE hk;rw [Nat.add_zero] at q0;go_wp2_with fail
   refine HP.out.mono ?_;rintro e w' ⟨t,rfl,hR⟩
   cases t
   ·go_wp2_with fail
    go_roundw
    case rel=>exact ⟨j+1,by omega,by go_num,by simpa using hR⟩
    case measure=>simp [intOf];omega
   ·go_wp2_with fail
    go_ret;exact ⟨j,rfl,.inr ⟨by omega,by simpa using hR⟩⟩
  ·obtain rfl:j=n:=by omega
   go_wp2_with fail
   go_ret;exact ⟨-1,rfl,.inl ⟨by omega,hJ⟩⟩
theorem zws (A:Option Addr) (n c:Nat) (g:Nat) (lb:Array Value) (w:World) (J:Nat->World->Prop) (S:World->Prop) (hn:n<=c) (hm:c<=9223372036854775807)
  (eg:∀args W,(callFunc g args).run Tryz.prog W=.ok (.enter g args) W)
  (hE:∀j,j<n->∃ (b off:Nat) (us:List Value),A=some ⟨b,off,none⟩/\us.length=3/\∀W,J j W->(∀ (i:Nat) (v:Value),us[i]? = some v->W.cell? ⟨b,off+j*3+i,none⟩=some v)/\Calls Tryz.prog g (#[.agg us.toArray]++lb) W (Ret fun t W'=>if t=true then S W' else J (j+1) W'))
  (h0:J 0 w) :
  Calls Tryz.prog 204 #[.slice A n c,.func (.func g) #[] lb] w (Ret fun t W'=>if t=true then S W' else J n W'):=by
 have HC:=Zh (zwx A n c g lb w J S hn hm eg hE h0);clear hE;go_enter Tryz.func204,Tryz.ntmps204
 go_wp2_with fail
 refine HC.out.mono ?_;rintro e w' ⟨i,rfl,hR⟩
 go_wp2_with fail
 go_ret;refine ⟨_,rfl,?_⟩;rcases hR with ⟨hi,hR⟩ | ⟨hi,hR⟩
 ·rw [if_neg (by simpa using hi)];exact hR
 ·rw [if_pos (by simpa using hi)];exact hR
theorem zuW (A:Option Addr) (n c:Nat) (g:Nat) (lb:Array Value) (w:World) (J:Nat->World->Prop) (S:World->Prop) (T:World->World->Prop) (hn:n<=c) (hm:c<=9223372036854775807)
  (eg:∀args W,(callFunc g args).run Tryz.prog W=.ok (.enter g args) W)
  (hJa:∀j W o,J j W->J j (W.alloc o)) (hr:∀W,T W W) (ht:∀U V W,T U V->T V W->T U W) (ha:∀W o,T W (W.alloc o))
  (hp:∀ty W,T (w.alloc (.cells #[.func (.func g) #[] lb] ty)) W->W.cell? ⟨w.heap.size,0,none⟩=some (.func (.func g) #[] lb))
  (hE:∀j,j<n->∃ (b off:Nat) (us:List Value),A=some ⟨b,off,none⟩/\us.length=3/\∀W,J j W->(∀ (i:Nat) (v:Value),us[i]? = some v->W.cell? ⟨b,off+j*3+i,none⟩=some v)/\Calls Tryz.prog g (#[.agg us.toArray]++lb) W (Ret fun t W'=>if t=true then J (j+1) W'/\T W W' else S W'))
  (h0:J 0 w) :
  Calls Tryz.prog 145 #[.slice A n c,.func (.func g) #[] lb] w (Ret fun t W'=>if t=true then J n W'/\T w W' else S W'):=by
 have HE:=Zh hE;have HP:=Zh hp;have key:∀ty,Calls Tryz.prog 204 #[.slice A n c,.func (.func 205) #[] #[.pointer (some ⟨w.heap.size,0,none⟩)]] (w.alloc (.cells #[.func (.func g) #[] lb] ty)) (Ret fun t W'=>if t=true then S W' else J n W'/\T (w.alloc (.cells #[.func (.func g) #[] lb] ty)) W'):=fun ty=>by
  refine zws A n c 205 #[.pointer (some ⟨w.heap.size,0,none⟩)] _ (fun j W=>J j W/\T (w.alloc (.cells #[.func (.func g) #[] lb] ty)) W) S hn hm (zDJ Tryz.func205 (by kernel_rfl) rfl) (fun j hj=>?_) ⟨hJa _ _ _ h0,hr _⟩;obtain ⟨b,off,us,rfl,hk,h1⟩:=HE.out j hj;refine ⟨b,off,us,rfl,hk,fun W hW=>⟨(h1 W hW.1).1,?_⟩⟩;obtain ⟨v0,v1,v2,rfl⟩:=zuF hk;have q:=HP.out ty W hW.2;have key2:∀ty2,Calls Tryz.prog g (#[.agg #[v0,v1,v2]]++lb) (W.alloc (.cells #[v0,v1,v2] ty2)) (Ret fun t W'=>if t=true then J (j+1) W'/\T (W.alloc (.cells #[v0,v1,v2] ty2)) W' else S W'):=fun ty2=>(h1 _ (hJa _ _ _ hW.1)).2
  clear h1 hE hp HE HP;have hTT:=hW.2;have hh:∀ty2,(W.alloc (.cells #[v0,v1,v2] ty2)).cell? ⟨w.heap.size,0,none⟩=some (.func (.func g) #[] lb):=fun ty2=>cell_kept q (World.grownBy_alloc W _ none) (fun r e=>by cases e)
  have q':=hh 60;have HN:=Blk.new W 60 #[v0,v1,v2];have p0:=HN.cell 0;have p1:=HN.cell 1;have p2:=HN.cell 2;have HK:=Zh key2;clear key2 hh;go_enter Tryz.func205,Tryz.ntmps205
  go_wp2_with fail
  refine (HK.out _).mono ?_;rintro e w' ⟨t,rfl,hR⟩
  go_wp2_with fail
  go_ret;refine ⟨_,rfl,?_⟩;cases t
  ·simpa using hR
  ·simp only [if_true] at hR
   simpa using ⟨hR.1,ht _ _ _ hTT (ht _ _ _ (ha _ _) hR.2)⟩
 have HK:=Zh key;clear hE hp HE HP key;go_enter Tryz.func145,Tryz.ntmps145
 go_wp2_with fail
 refine (HK.out _).mono ?_;rintro e w' ⟨t,rfl,hR⟩
 go_wp2_with fail
 go_ret;refine ⟨_,rfl,?_⟩;cases t
 ·simp only [Bool.false_eq_true,if_false] at hR
  simpa using ⟨hR.1,ht _ _ _ (ha _ _) hR.2⟩
 ·simpa using hR
theorem zwY {α:Type}{R:World->List Value->α->Prop}(hR:zJM R) {A:Option Addr}{n c:Nat}{xs:List α}(g:Nat) (lb:Array Value) (w:World) (h:Sl 3 R w A n c xs)
  (eg:∀args W,(callFunc g args).run Tryz.prog W=.ok (.enter g args) W)
  (hp:∀W us x,Below w.heap.size w W->x∈xs->R W us x->Calls Tryz.prog g (#[.agg us.toArray]++lb) W (zBW true W)) :
  Calls Tryz.prog 145 #[.slice A n c,.func (.func g) #[] lb] w (zBW true w):=by
 refine (zuW A n c g lb w (fun _ W=>Below w.heap.size w W) (fun _=>False) (fun A B=>Below A.heap.size A B) h.cap h.max eg (fun _ W o hb=>zAA hb (zAE _ _)) (fun W=>Yp _ _) (fun _ _ _=>zAA) (fun W o=>zAE _ _)
  (fun ty W hT=>by have:=(Blk.new w ty #[.func (.func g) #[] lb]).below hT (Blk.new w ty #[.func (.func g) #[] lb]).lt;exact this.cell 0) (fun j hj=>?_) (Yp _ _)).mono ?_
 ·obtain ⟨b,off,x,vs,rfl,hb,hx,hk,hRx,hc⟩:=h.get hj
  refine ⟨b,off,vs,rfl,hk,fun W hW=>⟨fun i v hi=>(hW.cell (p:=⟨b,off+j*3+i,none⟩) hb).trans (hc i v hi),?_⟩⟩;refine (hp W vs x hW (Yk hx) (hR _ _ _ _ hRx hW)).mono ?_;rintro e W' ⟨rfl,hb'⟩
  exact ⟨true,rfl,by simpa using ⟨zAA hW hb',hb'⟩⟩
 ·rintro e W' ⟨t,rfl,h⟩
  cases t
  ·simp at h
  ·simp only [if_true] at h
   exact ⟨rfl,h.1⟩
theorem zwy (A:Option Addr) (n c:Nat) (g:Nat) (lb:Array Value) (w:World) (J:Nat->World->Prop) (S:World->Prop) (hn:n<=c) (hm:c<=9223372036854775807)
  (eg:∀args W,(callFunc g args).run Tryz.prog W=.ok (.enter g args) W)
  (hE:∀j,j<n->∃ (b off:Nat) (us:List Value),A=some ⟨b,off,none⟩/\us.length=7/\∀W,J j W->(∀ (i:Nat) (v:Value),us[i]? = some v->W.cell? ⟨b,off+j*7+i,none⟩=some v)/\Calls Tryz.prog g (#[.agg us.toArray]++lb) W (Ret fun t W'=>if t=true then S W' else J (j+1) W'))
  (h0:J 0 w) :
  Calls Tryz.prog 97 #[.slice A n c,.func (.func g) #[] lb] w fun e W'=>∃i:Int,e=.returned (.int .i64 i)/\((i<0/\J n W')\/(0<=i/\S W')):=by
 have HE:=Zh hE;clear hE;go_enter Tryz.func97,Tryz.ntmps97
 go_wp2_with fail
 go_loopw [8] (fun i wr=>∃j:Nat,j<=n/\i=.int .i64 j/\J j wr) (fun i _=>n - (intOf i).toNat)
 case atStart=>exact ⟨0,Nat.zero_le _,rfl,h0⟩
 case round=>
  obtain ⟨j,hj,rfl,hJ⟩:=hrel;by_cases hlt:j<n
  ·obtain ⟨b,off,us,rfl,hk,h1⟩:=HE.out j hlt
   obtain ⟨hc,hcall⟩:=h1 wr hJ;obtain ⟨v0,v1,v2,v3,v4,v5,v6,rfl⟩:=zsk hk;have q0:=hc 0 _ rfl;have q1:=hc 1 _ rfl;have q2:=hc 2 _ rfl;have q3:=hc 3 _ rfl;have q4:=hc 4 _ rfl;have q5:=hc 5 _ rfl;have q6:=hc 6 _ rfl;have HP:=Zh hcall;clear hc hcall h1 HE hk;rw [Nat.add_zero] at q0;go_wp2_with fail
   refine HP.out.mono ?_;rintro e w' ⟨t,rfl,hR⟩
   cases t
   ·go_wp2_with fail
    go_roundw
    case rel=>exact ⟨j+1,by omega,by go_num,by simpa using hR⟩
    case measure=>simp [intOf];omega
   ·go_wp2_with fail
    go_ret;exact ⟨j,rfl,.inr ⟨by omega,by simpa using hR⟩⟩
  ·obtain rfl:j=n:=by omega
   go_wp2_with fail
   go_ret;exact ⟨-1,rfl,.inl ⟨by omega,hJ⟩⟩
theorem zwt (A:Option Addr) (n c:Nat) (g:Nat) (lb:Array Value) (w:World) (J:Nat->World->Prop) (S:World->Prop) (hn:n<=c) (hm:c<=9223372036854775807)
  (eg:∀args W,(callFunc g args).run Tryz.prog W=.ok (.enter g args) W)
  (hE:∀j,j<n->∃ (b off:Nat) (us:List Value),A=some ⟨b,off,none⟩/\us.length=7/\∀W,J j W->(∀ (i:Nat) (v:Value),us[i]? = some v->W.cell? ⟨b,off+j*7+i,none⟩=some v)/\Calls Tryz.prog g (#[.agg us.toArray]++lb) W (Ret fun t W'=>if t=true then S W' else J (j+1) W'))
  (h0:J 0 w) :
  Calls Tryz.prog 281 #[.slice A n c,.func (.func g) #[] lb] w (Ret fun t W'=>if t=true then S W' else J n W'):=by
 have HC:=Zh (zwy A n c g lb w J S hn hm eg hE h0);clear hE;go_enter Tryz.func281,Tryz.ntmps281
 go_wp2_with fail
 refine HC.out.mono ?_;rintro e w' ⟨i,rfl,hR⟩
 go_wp2_with fail
 go_ret;refine ⟨_,rfl,?_⟩;rcases hR with ⟨hi,hR⟩ | ⟨hi,hR⟩
 ·rw [if_neg (by simpa using hi)];exact hR
 ·rw [if_pos (by simpa using hi)];exact hR
theorem zuX (A:Option Addr) (n c:Nat) (g:Nat) (lb:Array Value) (w:World) (J:Nat->World->Prop) (S:World->Prop) (T:World->World->Prop) (hn:n<=c) (hm:c<=9223372036854775807)
  (eg:∀args W,(callFunc g args).run Tryz.prog W=.ok (.enter g args) W)
  (hJa:∀j W o,J j W->J j (W.alloc o)) (hr:∀W,T W W) (ht:∀U V W,T U V->T V W->T U W) (ha:∀W o,T W (W.alloc o))
  (hp:∀ty W,T (w.alloc (.cells #[.func (.func g) #[] lb] ty)) W->W.cell? ⟨w.heap.size,0,none⟩=some (.func (.func g) #[] lb))
  (hE:∀j,j<n->∃ (b off:Nat) (us:List Value),A=some ⟨b,off,none⟩/\us.length=7/\∀W,J j W->(∀ (i:Nat) (v:Value),us[i]? = some v->W.cell? ⟨b,off+j*7+i,none⟩=some v)/\Calls Tryz.prog g (#[.agg us.toArray]++lb) W (Ret fun t W'=>if t=true then J (j+1) W'/\T W W' else S W'))
  (h0:J 0 w) :
  Calls Tryz.prog 206 #[.slice A n c,.func (.func g) #[] lb] w (Ret fun t W'=>if t=true then J n W'/\T w W' else S W'):=by
 have HE:=Zh hE;have HP:=Zh hp;have key:∀ty,Calls Tryz.prog 281 #[.slice A n c,.func (.func 282) #[] #[.pointer (some ⟨w.heap.size,0,none⟩)]] (w.alloc (.cells #[.func (.func g) #[] lb] ty)) (Ret fun t W'=>if t=true then S W' else J n W'/\T (w.alloc (.cells #[.func (.func g) #[] lb] ty)) W'):=fun ty=>by
  refine zwt A n c 282 #[.pointer (some ⟨w.heap.size,0,none⟩)] _ (fun j W=>J j W/\T (w.alloc (.cells #[.func (.func g) #[] lb] ty)) W) S hn hm (zDJ Tryz.func282 (by kernel_rfl) rfl) (fun j hj=>?_) ⟨hJa _ _ _ h0,hr _⟩;obtain ⟨b,off,us,rfl,hk,h1⟩:=HE.out j hj;refine ⟨b,off,us,rfl,hk,fun W hW=>⟨(h1 W hW.1).1,?_⟩⟩;obtain ⟨v0,v1,v2,v3,v4,v5,v6,rfl⟩:=zsk hk;have q:=HP.out ty W hW.2;have key2:∀ty2,Calls Tryz.prog g (#[.agg #[v0,v1,v2,v3,v4,v5,v6]]++lb) (W.alloc (.cells #[v0,v1,v2,v3,v4,v5,v6] ty2)) (Ret fun t W'=>if t=true then J (j+1) W'/\T (W.alloc (.cells #[v0,v1,v2,v3,v4,v5,v6] ty2)) W' else S W'):=fun ty2=>(h1 _ (hJa _ _ _ hW.1)).2
  clear h1 hE hp HE HP;have hTT:=hW.2;have hh:∀ty2,(W.alloc (.cells #[v0,v1,v2,v3,v4,v5,v6] ty2)).cell? ⟨w.heap.size,0,none⟩=some (.func (.func g) #[] lb):=fun ty2=>cell_kept q (World.grownBy_alloc W _ none) (fun r e=>by cases e)
  have q':=hh 95;have HN:=Blk.new W 95 #[v0,v1,v2,v3,v4,v5,v6];have p0:=HN.cell 0;have p1:=HN.cell 1;have p2:=HN.cell 2;have p3:=HN.cell 3;have p4:=HN.cell 4;have p5:=HN.cell 5;have p6:=HN.cell 6;have HK:=Zh key2;clear key2 hh;go_enter Tryz.func282,Tryz.ntmps282
  go_wp2_with fail
  refine (HK.out _).mono ?_;rintro e w' ⟨t,rfl,hR⟩
  go_wp2_with fail
  go_ret;refine ⟨_,rfl,?_⟩;cases t
  ·simpa using hR
  ·simp only [if_true] at hR
   simpa using ⟨hR.1,ht _ _ _ hTT (ht _ _ _ (ha _ _) hR.2)⟩
 have HK:=Zh key;clear hE hp HE HP key;go_enter Tryz.func206,Tryz.ntmps206
 go_wp2_with fail
 refine (HK.out _).mono ?_;rintro e w' ⟨t,rfl,hR⟩
 go_wp2_with fail
 go_ret;refine ⟨_,rfl,?_⟩;cases t
 ·simp only [Bool.false_eq_true,if_false] at hR
  simpa using ⟨hR.1,ht _ _ _ (ha _ _) hR.2⟩
 ·simpa using hR
theorem zwZ {α:Type}{R:World->List Value->α->Prop}(hR:zJM R) {A:Option Addr}{n c:Nat}{xs:List α}(g:Nat) (lb:Array Value) (w:World) (h:Sl 7 R w A n c xs)
  (eg:∀args W,(callFunc g args).run Tryz.prog W=.ok (.enter g args) W)
  (hp:∀W us x,Below w.heap.size w W->x∈xs->R W us x->Calls Tryz.prog g (#[.agg us.toArray]++lb) W (zBW true W)) :
  Calls Tryz.prog 206 #[.slice A n c,.func (.func g) #[] lb] w (zBW true w):=by
 refine (zuX A n c g lb w (fun _ W=>Below w.heap.size w W) (fun _=>False) (fun A B=>Below A.heap.size A B) h.cap h.max eg (fun _ W o hb=>zAA hb (zAE _ _)) (fun W=>Yp _ _) (fun _ _ _=>zAA) (fun W o=>zAE _ _)
  (fun ty W hT=>by have:=(Blk.new w ty #[.func (.func g) #[] lb]).below hT (Blk.new w ty #[.func (.func g) #[] lb]).lt;exact this.cell 0) (fun j hj=>?_) (Yp _ _)).mono ?_
 ·obtain ⟨b,off,x,vs,rfl,hb,hx,hk,hRx,hc⟩:=h.get hj
  refine ⟨b,off,vs,rfl,hk,fun W hW=>⟨fun i v hi=>(hW.cell (p:=⟨b,off+j*7+i,none⟩) hb).trans (hc i v hi),?_⟩⟩;refine (hp W vs x hW (Yk hx) (hR _ _ _ _ hRx hW)).mono ?_;rintro e W' ⟨rfl,hb'⟩
  exact ⟨true,rfl,by simpa using ⟨zAA hW hb',hb'⟩⟩
 ·rintro e W' ⟨t,rfl,h⟩
  cases t
  ·simp at h
  ·simp only [if_true] at h
   exact ⟨rfl,h.1⟩
theorem zww (A:Option Addr) (n c:Nat) (g:Nat) (lb:Array Value) (w:World) (J:Nat->World->Prop) (S:World->Prop) (hn:n<=c) (hm:c<=9223372036854775807)
  (eg:∀args W,(callFunc g args).run Tryz.prog W=.ok (.enter g args) W)
  (hE:∀j,j<n->∃ (b off:Nat) (us:List Value),A=some ⟨b,off,none⟩/\us.length=9/\∀W,J j W->(∀ (i:Nat) (v:Value),us[i]? = some v->W.cell? ⟨b,off+j*9+i,none⟩=some v)/\Calls Tryz.prog g (#[.agg us.toArray]++lb) W (Ret fun t W'=>if t=true then S W' else J (j+1) W'))
  (h0:J 0 w) :
  Calls Tryz.prog 326 #[.slice A n c,.func (.func g) #[] lb] w fun e W'=>∃i:Int,e=.returned (.int .i64 i)/\((i<0/\J n W')\/(0<=i/\S W')):=by
 have HE:=Zh hE;clear hE;go_enter Tryz.func326,Tryz.ntmps326
 go_wp2_with fail
 go_loopw [8] (fun i wr=>∃j:Nat,j<=n/\i=.int .i64 j/\J j wr) (fun i _=>n - (intOf i).toNat)
 case atStart=>exact ⟨0,Nat.zero_le _,rfl,h0⟩
 case round=>
  obtain ⟨j,hj,rfl,hJ⟩:=hrel;by_cases hlt:j<n
  ·obtain ⟨b,off,us,rfl,hk,h1⟩:=HE.out j hlt
   obtain ⟨hc,hcall⟩:=h1 wr hJ;obtain ⟨v0,v1,v2,v3,v4,v5,v6,v7,v8,rfl⟩:=zuH hk;have q0:=hc 0 _ rfl;have q1:=hc 1 _ rfl;have q2:=hc 2 _ rfl;have q3:=hc 3 _ rfl;have q4:=hc 4 _ rfl;have q5:=hc 5 _ rfl;have q6:=hc 6 _ rfl;have q7:=hc 7 _ rfl;have q8:=hc 8 _ rfl;have HP:=Zh hcall;clear hc hcall h1 HE hk;rw [Nat.add_zero] at q0;go_wp2_with fail
   refine HP.out.mono ?_;rintro e w' ⟨t,rfl,hR⟩
   cases t
   ·go_wp2_with fail
    go_roundw
    case rel=>exact ⟨j+1,by omega,by go_num,by simpa using hR⟩
    case measure=>simp [intOf];omega
   ·go_wp2_with fail
    go_ret;exact ⟨j,rfl,.inr ⟨by omega,by simpa using hR⟩⟩
  ·obtain rfl:j=n:=by omega
   go_wp2_with fail
   go_ret;exact ⟨-1,rfl,.inl ⟨by omega,hJ⟩⟩
theorem zwr (A:Option Addr) (n c:Nat) (g:Nat) (lb:Array Value) (w:World) (J:Nat->World->Prop) (S:World->Prop) (hn:n<=c) (hm:c<=9223372036854775807)
  (eg:∀args W,(callFunc g args).run Tryz.prog W=.ok (.enter g args) W)
  (hE:∀j,j<n->∃ (b off:Nat) (us:List Value),A=some ⟨b,off,none⟩/\us.length=9/\∀W,J j W->(∀ (i:Nat) (v:Value),us[i]? = some v->W.cell? ⟨b,off+j*9+i,none⟩=some v)/\Calls Tryz.prog g (#[.agg us.toArray]++lb) W (Ret fun t W'=>if t=true then S W' else J (j+1) W'))
  (h0:J 0 w) :
  Calls Tryz.prog 283 #[.slice A n c,.func (.func g) #[] lb] w (Ret fun t W'=>if t=true then S W' else J n W'):=by
 have HC:=Zh (zww A n c g lb w J S hn hm eg hE h0);clear hE;go_enter Tryz.func283,Tryz.ntmps283
 go_wp2_with fail
 refine HC.out.mono ?_;rintro e w' ⟨i,rfl,hR⟩
 go_wp2_with fail
 go_ret;refine ⟨_,rfl,?_⟩;rcases hR with ⟨hi,hR⟩ | ⟨hi,hR⟩
 ·rw [if_neg (by simpa using hi)];exact hR
 ·rw [if_pos (by simpa using hi)];exact hR
theorem zuV (A:Option Addr) (n c:Nat) (g:Nat) (lb:Array Value) (w:World) (J:Nat->World->Prop) (S:World->Prop) (T:World->World->Prop) (hn:n<=c) (hm:c<=9223372036854775807)
  (eg:∀args W,(callFunc g args).run Tryz.prog W=.ok (.enter g args) W)
  (hJa:∀j W o,J j W->J j (W.alloc o)) (hr:∀W,T W W) (ht:∀U V W,T U V->T V W->T U W) (ha:∀W o,T W (W.alloc o))
  (hp:∀ty W,T (w.alloc (.cells #[.func (.func g) #[] lb] ty)) W->W.cell? ⟨w.heap.size,0,none⟩=some (.func (.func g) #[] lb))
  (hE:∀j,j<n->∃ (b off:Nat) (us:List Value),A=some ⟨b,off,none⟩/\us.length=9/\∀W,J j W->(∀ (i:Nat) (v:Value),us[i]? = some v->W.cell? ⟨b,off+j*9+i,none⟩=some v)/\Calls Tryz.prog g (#[.agg us.toArray]++lb) W (Ret fun t W'=>if t=true then J (j+1) W'/\T W W' else S W'))
  (h0:J 0 w) :
  Calls Tryz.prog 208 #[.slice A n c,.func (.func g) #[] lb] w (Ret fun t W'=>if t=true then J n W'/\T w W' else S W'):=by
 have HE:=Zh hE;have HP:=Zh hp;have key:∀ty,Calls Tryz.prog 283 #[.slice A n c,.func (.func 284) #[] #[.pointer (some ⟨w.heap.size,0,none⟩)]] (w.alloc (.cells #[.func (.func g) #[] lb] ty)) (Ret fun t W'=>if t=true then S W' else J n W'/\T (w.alloc (.cells #[.func (.func g) #[] lb] ty)) W'):=fun ty=>by
  refine zwr A n c 284 #[.pointer (some ⟨w.heap.size,0,none⟩)] _ (fun j W=>J j W/\T (w.alloc (.cells #[.func (.func g) #[] lb] ty)) W) S hn hm (zDJ Tryz.func284 (by kernel_rfl) rfl) (fun j hj=>?_) ⟨hJa _ _ _ h0,hr _⟩;obtain ⟨b,off,us,rfl,hk,h1⟩:=HE.out j hj;refine ⟨b,off,us,rfl,hk,fun W hW=>⟨(h1 W hW.1).1,?_⟩⟩;obtain ⟨v0,v1,v2,v3,v4,v5,v6,v7,v8,rfl⟩:=zuH hk;have q:=HP.out ty W hW.2;have key2:∀ty2,Calls Tryz.prog g (#[.agg #[v0,v1,v2,v3,v4,v5,v6,v7,v8]]++lb) (W.alloc (.cells #[v0,v1,v2,v3,v4,v5,v6,v7,v8] ty2)) (Ret fun t W'=>if t=true then J (j+1) W'/\T (W.alloc (.cells #[v0,v1,v2,v3,v4,v5,v6,v7,v8] ty2)) W' else S W'):=fun ty2=>(h1 _ (hJa _ _ _ hW.1)).2
  clear h1 hE hp HE HP;have hTT:=hW.2;have hh:∀ty2,(W.alloc (.cells #[v0,v1,v2,v3,v4,v5,v6,v7,v8] ty2)).cell? ⟨w.heap.size,0,none⟩=some (.func (.func g) #[] lb):=fun ty2=>cell_kept q (World.grownBy_alloc W _ none) (fun r e=>by cases e)
  have q':=hh 89;have HN:=Blk.new W 89 #[v0,v1,v2,v3,v4,v5,v6,v7,v8];have p0:=HN.cell 0;have p1:=HN.cell 1;have p2:=HN.cell 2;have p3:=HN.cell 3;have p4:=HN.cell 4;have p5:=HN.cell 5;have p6:=HN.cell 6;have p7:=HN.cell 7;have p8:=HN.cell 8;have HK:=Zh key2;clear key2 hh;go_enter Tryz.func284,Tryz.ntmps284
  go_wp2_with fail
  refine (HK.out _).mono ?_;rintro e w' ⟨t,rfl,hR⟩
  go_wp2_with fail
  go_ret;refine ⟨_,rfl,?_⟩;cases t
  ·simpa using hR
  ·simp only [if_true] at hR
   simpa using ⟨hR.1,ht _ _ _ hTT (ht _ _ _ (ha _ _) hR.2)⟩
 have HK:=Zh key;clear hE hp HE HP key;go_enter Tryz.func208,Tryz.ntmps208
 go_wp2_with fail
 refine (HK.out _).mono ?_;rintro e w' ⟨t,rfl,hR⟩
 go_wp2_with fail
 go_ret;refine ⟨_,rfl,?_⟩;cases t
 ·simp only [Bool.false_eq_true,if_false] at hR
  simpa using ⟨hR.1,ht _ _ _ (ha _ _) hR.2⟩
 ·simpa using hR
theorem zwX {α:Type}{R:World->List Value->α->Prop}(hR:zJM R) {A:Option Addr}{n c:Nat}{xs:List α}(g:Nat) (lb:Array Value) (w:World) (h:Sl 9 R w A n c xs)
  (eg:∀args W,(callFunc g args).run Tryz.prog W=.ok (.enter g args) W)
  (hp:∀W us x,Below w.heap.size w W->x∈xs->R W us x->Calls Tryz.prog g (#[.agg us.toArray]++lb) W (zBW true W)) :
  Calls Tryz.prog 208 #[.slice A n c,.func (.func g) #[] lb] w (zBW true w):=by
 refine (zuV A n c g lb w (fun _ W=>Below w.heap.size w W) (fun _=>False) (fun A B=>Below A.heap.size A B) h.cap h.max eg (fun _ W o hb=>zAA hb (zAE _ _)) (fun W=>Yp _ _) (fun _ _ _=>zAA) (fun W o=>zAE _ _)
  (fun ty W hT=>by have:=(Blk.new w ty #[.func (.func g) #[] lb]).below hT (Blk.new w ty #[.func (.func g) #[] lb]).lt;exact this.cell 0) (fun j hj=>?_) (Yp _ _)).mono ?_
 ·obtain ⟨b,off,x,vs,rfl,hb,hx,hk,hRx,hc⟩:=h.get hj
  refine ⟨b,off,vs,rfl,hk,fun W hW=>⟨fun i v hi=>(hW.cell (p:=⟨b,off+j*9+i,none⟩) hb).trans (hc i v hi),?_⟩⟩;refine (hp W vs x hW (Yk hx) (hR _ _ _ _ hRx hW)).mono ?_;rintro e W' ⟨rfl,hb'⟩
  exact ⟨true,rfl,by simpa using ⟨zAA hW hb',hb'⟩⟩
 ·rintro e W' ⟨t,rfl,h⟩
  cases t
  ·simp at h
  ·simp only [if_true] at h
   exact ⟨rfl,h.1⟩
theorem zwz (A:Option Addr) (n c:Nat) (g:Nat) (lb:Array Value) (w:World) (J:Nat->World->Prop) (S:World->Prop) (hn:n<=c) (hm:c<=9223372036854775807)
  (eg:∀args W,(callFunc g args).run Tryz.prog W=.ok (.enter g args) W)
  (hE:∀j,j<n->∃ (b off:Nat) (us:List Value),A=some ⟨b,off,none⟩/\us.length=7/\∀W,J j W->(∀ (i:Nat) (v:Value),us[i]? = some v->W.cell? ⟨b,off+j*7+i,none⟩=some v)/\Calls Tryz.prog g (#[.agg us.toArray]++lb) W (Ret fun t W'=>if t=true then S W' else J (j+1) W'))
  (h0:J 0 w) :
  Calls Tryz.prog 327 #[.slice A n c,.func (.func g) #[] lb] w fun e W'=>∃i:Int,e=.returned (.int .i64 i)/\((i<0/\J n W')\/(0<=i/\S W')):=by
 have HE:=Zh hE;clear hE;go_enter Tryz.func327,Tryz.ntmps327
 go_wp2_with fail
 go_loopw [8] (fun i wr=>∃j:Nat,j<=n/\i=.int .i64 j/\J j wr) (fun i _=>n - (intOf i).toNat)
 case atStart=>exact ⟨0,Nat.zero_le _,rfl,h0⟩
 case round=>
  obtain ⟨j,hj,rfl,hJ⟩:=hrel;by_cases hlt:j<n
  ·obtain ⟨b,off,us,rfl,hk,h1⟩:=HE.out j hlt
   obtain ⟨hc,hcall⟩:=h1 wr hJ;obtain ⟨v0,v1,v2,v3,v4,v5,v6,rfl⟩:=zsk hk;have q0:=hc 0 _ rfl;have q1:=hc 1 _ rfl;have q2:=hc 2 _ rfl;have q3:=hc 3 _ rfl;have q4:=hc 4 _ rfl;have q5:=hc 5 _ rfl;have q6:=hc 6 _ rfl;have HP:=Zh hcall;clear hc hcall h1 HE hk;rw [Nat.add_zero] at q0;go_wp2_with fail
   refine HP.out.mono ?_;rintro e w' ⟨t,rfl,hR⟩
   cases t
   ·go_wp2_with fail
    go_roundw
    case rel=>exact ⟨j+1,by omega,by go_num,by simpa using hR⟩
    case measure=>simp [intOf];omega
   ·go_wp2_with fail
    go_ret;exact ⟨j,rfl,.inr ⟨by omega,by simpa using hR⟩⟩
  ·obtain rfl:j=n:=by omega
   go_wp2_with fail
   go_ret;exact ⟨-1,rfl,.inl ⟨by omega,hJ⟩⟩
theorem zwu (A:Option Addr) (n c:Nat) (g:Nat) (lb:Array Value) (w:World) (J:Nat->World->Prop) (S:World->Prop) (hn:n<=c) (hm:c<=9223372036854775807)
  (eg:∀args W,(callFunc g args).run Tryz.prog W=.ok (.enter g args) W)
  (hE:∀j,j<n->∃ (b off:Nat) (us:List Value),A=some ⟨b,off,none⟩/\us.length=7/\∀W,J j W->(∀ (i:Nat) (v:Value),us[i]? = some v->W.cell? ⟨b,off+j*7+i,none⟩=some v)/\Calls Tryz.prog g (#[.agg us.toArray]++lb) W (Ret fun t W'=>if t=true then S W' else J (j+1) W'))
  (h0:J 0 w) :
  Calls Tryz.prog 285 #[.slice A n c,.func (.func g) #[] lb] w (Ret fun t W'=>if t=true then S W' else J n W'):=by
 have HC:=Zh (zwz A n c g lb w J S hn hm eg hE h0);clear hE;go_enter Tryz.func285,Tryz.ntmps285
 go_wp2_with fail
 refine HC.out.mono ?_;rintro e w' ⟨i,rfl,hR⟩
 go_wp2_with fail
 go_ret;refine ⟨_,rfl,?_⟩;rcases hR with ⟨hi,hR⟩ | ⟨hi,hR⟩
 ·rw [if_neg (by simpa using hi)];exact hR
 ·rw [if_pos (by simpa using hi)];exact hR
theorem zuY (A:Option Addr) (n c:Nat) (g:Nat) (lb:Array Value) (w:World) (J:Nat->World->Prop) (S:World->Prop) (T:World->World->Prop) (hn:n<=c) (hm:c<=9223372036854775807)
  (eg:∀args W,(callFunc g args).run Tryz.prog W=.ok (.enter g args) W)
  (hJa:∀j W o,J j W->J j (W.alloc o)) (hr:∀W,T W W) (ht:∀U V W,T U V->T V W->T U W) (ha:∀W o,T W (W.alloc o))
  (hp:∀ty W,T (w.alloc (.cells #[.func (.func g) #[] lb] ty)) W->W.cell? ⟨w.heap.size,0,none⟩=some (.func (.func g) #[] lb))
  (hE:∀j,j<n->∃ (b off:Nat) (us:List Value),A=some ⟨b,off,none⟩/\us.length=7/\∀W,J j W->(∀ (i:Nat) (v:Value),us[i]? = some v->W.cell? ⟨b,off+j*7+i,none⟩=some v)/\Calls Tryz.prog g (#[.agg us.toArray]++lb) W (Ret fun t W'=>if t=true then J (j+1) W'/\T W W' else S W'))
  (h0:J 0 w) :
  Calls Tryz.prog 210 #[.slice A n c,.func (.func g) #[] lb] w (Ret fun t W'=>if t=true then J n W'/\T w W' else S W'):=by
 have HE:=Zh hE;have HP:=Zh hp;have key:∀ty,Calls Tryz.prog 285 #[.slice A n c,.func (.func 286) #[] #[.pointer (some ⟨w.heap.size,0,none⟩)]] (w.alloc (.cells #[.func (.func g) #[] lb] ty)) (Ret fun t W'=>if t=true then S W' else J n W'/\T (w.alloc (.cells #[.func (.func g) #[] lb] ty)) W'):=fun ty=>by
  refine zwu A n c 286 #[.pointer (some ⟨w.heap.size,0,none⟩)] _ (fun j W=>J j W/\T (w.alloc (.cells #[.func (.func g) #[] lb] ty)) W) S hn hm (zDJ Tryz.func286 (by kernel_rfl) rfl) (fun j hj=>?_) ⟨hJa _ _ _ h0,hr _⟩;obtain ⟨b,off,us,rfl,hk,h1⟩:=HE.out j hj;refine ⟨b,off,us,rfl,hk,fun W hW=>⟨(h1 W hW.1).1,?_⟩⟩;obtain ⟨v0,v1,v2,v3,v4,v5,v6,rfl⟩:=zsk hk;have q:=HP.out ty W hW.2;have key2:∀ty2,Calls Tryz.prog g (#[.agg #[v0,v1,v2,v3,v4,v5,v6]]++lb) (W.alloc (.cells #[v0,v1,v2,v3,v4,v5,v6] ty2)) (Ret fun t W'=>if t=true then J (j+1) W'/\T (W.alloc (.cells #[v0,v1,v2,v3,v4,v5,v6] ty2)) W' else S W'):=fun ty2=>(h1 _ (hJa _ _ _ hW.1)).2
  clear h1 hE hp HE HP;have hTT:=hW.2;have hh:∀ty2,(W.alloc (.cells #[v0,v1,v2,v3,v4,v5,v6] ty2)).cell? ⟨w.heap.size,0,none⟩=some (.func (.func g) #[] lb):=fun ty2=>cell_kept q (World.grownBy_alloc W _ none) (fun r e=>by cases e)
  have q':=hh 86;have HN:=Blk.new W 86 #[v0,v1,v2,v3,v4,v5,v6];have p0:=HN.cell 0;have p1:=HN.cell 1;have p2:=HN.cell 2;have p3:=HN.cell 3;have p4:=HN.cell 4;have p5:=HN.cell 5;have p6:=HN.cell 6;have HK:=Zh key2;clear key2 hh;go_enter Tryz.func286,Tryz.ntmps286
  go_wp2_with fail
  refine (HK.out _).mono ?_;rintro e w' ⟨t,rfl,hR⟩
  go_wp2_with fail
  go_ret;refine ⟨_,rfl,?_⟩;cases t
  ·simpa using hR
  ·simp only [if_true] at hR
   simpa using ⟨hR.1,ht _ _ _ hTT (ht _ _ _ (ha _ _) hR.2)⟩
 have HK:=Zh key;clear hE hp HE HP key;go_enter Tryz.func210,Tryz.ntmps210
 go_wp2_with fail
 refine (HK.out _).mono ?_;rintro e w' ⟨t,rfl,hR⟩
 go_wp2_with fail
 go_ret;refine ⟨_,rfl,?_⟩;cases t
 ·simp only [Bool.false_eq_true,if_false] at hR
  simpa using ⟨hR.1,ht _ _ _ (ha _ _) hR.2⟩
 ·simpa using hR
theorem zwa {α:Type}{R:World->List Value->α->Prop}(hR:zJM R) {A:Option Addr}{n c:Nat}{xs:List α}(g:Nat) (lb:Array Value) (w:World) (h:Sl 7 R w A n c xs)
  (eg:∀args W,(callFunc g args).run Tryz.prog W=.ok (.enter g args) W)
  (hp:∀W us x,Below w.heap.size w W->x∈xs->R W us x->Calls Tryz.prog g (#[.agg us.toArray]++lb) W (zBW true W)) :
  Calls Tryz.prog 210 #[.slice A n c,.func (.func g) #[] lb] w (zBW true w):=by
 refine (zuY A n c g lb w (fun _ W=>Below w.heap.size w W) (fun _=>False) (fun A B=>Below A.heap.size A B) h.cap h.max eg (fun _ W o hb=>zAA hb (zAE _ _)) (fun W=>Yp _ _) (fun _ _ _=>zAA) (fun W o=>zAE _ _)
  (fun ty W hT=>by have:=(Blk.new w ty #[.func (.func g) #[] lb]).below hT (Blk.new w ty #[.func (.func g) #[] lb]).lt;exact this.cell 0) (fun j hj=>?_) (Yp _ _)).mono ?_
 ·obtain ⟨b,off,x,vs,rfl,hb,hx,hk,hRx,hc⟩:=h.get hj
  refine ⟨b,off,vs,rfl,hk,fun W hW=>⟨fun i v hi=>(hW.cell (p:=⟨b,off+j*7+i,none⟩) hb).trans (hc i v hi),?_⟩⟩;refine (hp W vs x hW (Yk hx) (hR _ _ _ _ hRx hW)).mono ?_;rintro e W' ⟨rfl,hb'⟩
  exact ⟨true,rfl,by simpa using ⟨zAA hW hb',hb'⟩⟩
 ·rintro e W' ⟨t,rfl,h⟩
  cases t
  ·simp at h
  ·simp only [if_true] at h
   exact ⟨rfl,h.1⟩
structure KX (g:Nat) (w w':World):Prop where
 os:w'.os=w.os
 tape:w'.tape=w.tape
 output:w'.output=w.output
 size:w.heap.size<=w'.heap.size
 block:∀b,b<w.heap.size->b≠g->w'.heap[b]? = w.heap[b]?
section
variable {g:Nat}{w w' w'':World}
theorem KX.refl (g:Nat) (w:World):KX g w w:=⟨rfl,rfl,rfl,Ya _,fun _ _ _=>rfl⟩
theorem KX.trans (h:KX g w w') (k:KX g w' w''):KX g w w'':=⟨k.os.trans h.os,k.tape.trans h.tape,k.output.trans h.output,Yq h.size k.size,fun b hb hg=>(k.block b (Yh hb h.size) hg).trans (h.block b hb hg)⟩
theorem KX.of (h:Below w.heap.size w w'):KX g w w':=⟨h.os,h.tape,h.output,h.size,fun b hb _=>h.block b hb⟩
theorem KX.below (h:KX g w w') (hg:g<=w.heap.size):Below g w w':=⟨h.os,h.tape,h.output,h.size,fun b hb=>h.block b (by omega) (by omega)⟩
theorem KX.set (i:Nat) (v:Value):KX g w (w.setCell ⟨g,i,none⟩ v):=⟨rfl,rfl,rfl,by simp [World.setCell],fun b _ hg=>Yl _ _ _ _ hg⟩
theorem KX.blk {b:Nat}{t:TypeId}{cs:Array Value}(h:KX g w w') (hk:Blk w b t cs) (hg:b≠g):Blk w' b t cs:=(h.block b hk.lt hg).trans hk
theorem KX.cell {b o:Nat}{v:Value}(h:KX g w w') (hb:b≠g) (hc:w.cell? ⟨b,o,none⟩=some v):w'.cell? ⟨b,o,none⟩=some v:=
 (World.cell?_of_block (w:=w) (a:=⟨b,o,none⟩) (h.block b (World.block_lt_of_cell? w ⟨b,o,none⟩ hc) hb)).trans hc
theorem KX.rx {F:Nat->Prop}{d:Nat}{us:List Value}{x:Xn}(h:KX g w w') (hF:∀b,F b->b≠g) (hx:RX F d w us x):RX F d w' us x:=
 hx.keep (fun _ h=>h) h.size (fun b _ _ hb hc=>h.cell (hF b hb) hc) _ _ _
end
theorem zsC (k:Int) (h:3<=k/\k<=13) (w:World):Calls Tryz.prog 333 #[.int .i64 k] w fun e w'=>e=.returned (.int .i64 (zrD k))/\w' = w:=by
 have h':k=3\/k=4\/k=5\/k=6\/k=7\/k=8\/k=9\/k=10\/k=11\/k=12\/k=13:=by omega
 rcases h' with rfl | rfl | rfl | rfl | rfl | rfl | rfl | rfl | rfl | rfl | rfl <;>
 ·go_enter Tryz.func333,Tryz.ntmps333
  go_wp2_with fail
  go_ret;exact ⟨rfl,rfl⟩
theorem zqk:∀a b:List Xn,Xn.flats (a++b)=Xn.flats a++Xn.flats b
 | [],b=>rfl
 | x::a,b=>by rw [List.cons_append,Xn.flats,Xn.flats,zqk a b,List.append_assoc]
theorem zqi {l:List Xn}{j:Nat}{y:Xn}(h:l[j]? = some y):Xn.flats (l.take (j+1))=Xn.flats (l.take j)++y.flat:=by
 rw [List.take_add_one,h,zqk];simp [Xn.flats]
def cfr (w:World) (b off:Nat):Nat->List Value
 | 0=>[]
 | m+1=>cfr w b off m++[(w.cell? ⟨b,off+m,none⟩).getD undef]
theorem zrE (w:World) (b off:Nat):∀m,(cfr w b off m).length=m
 | 0=>rfl
 | m+1=>by rw [cfr,Yu,zrE w b off m];rfl
theorem zsN (w:World) (b off:Nat):∀ (m i:Nat),i<m->(cfr w b off m)[i]? = some ((w.cell? ⟨b,off+i,none⟩).getD undef):=by
 intro m
 induction m with
 | zero=>intro i h;omega
 | succ m ih=>
  intro i h;rw [cfr];by_cases hi:i<m
  ·rw [Yw (by rw [zrE];exact hi)]
   exact ih i hi
  ·have:i=m:=by omega
   subst this;rw [Yx (by rw [zrE];exact Ya _),zrE,Nat.sub_self];rfl
theorem ztg (b off j:Nat):(⟨b,off,none⟩:Addr).add j=⟨b,off+j,none⟩:=by
 unfold Addr.add
 split
 ·subst_vars;rfl
 ·rfl
theorem zuQ {α:Type}{k:Nat}{R:World->List Value->α->Prop}{w:World}{b off n c:Nat}{xs:List α}(h:Sl k R w (some ⟨b,off,none⟩) n c xs) (hk:0<k) (h1:∀W vs x,R W vs x->∀u∈vs,u.oneCell' = true) :
  (∀u∈cfr w b off (n*k),u.oneCell' = true)/\∀ (j:Nat) (u:Value),(cfr w b off (n*k))[j]? = some u->w.cell? ((⟨b,off,none⟩:Addr).add j)=some u:=by
 have key:∀j,j<n*k->∃u,w.cell? ⟨b,off+j,none⟩=some u/\u.oneCell' = true:=by
  intro j hj;have hq:j / k<n:=(Nat.div_lt_iff_lt_mul hk).2 hj;obtain ⟨b',off',x,vs,eA,_,_,hl,hR,hc⟩:=h.get hq;injection eA with eA
  injection eA with e2 e3 _
  subst e2 e3;have hm:j%k<vs.length:=by rw [hl];exact Nat.mod_lt _ hk
  refine ⟨vs[j%k],?_,h1 _ _ _ hR _ (List.getElem_mem hm)⟩;have:=hc (j%k) _ (Yo hm);rw [Nat.add_assoc,show j / k*k+j%k=j by rw [Nat.mul_comm];exact Nat.div_add_mod j k] at this;exact this
 constructor
 ·intro u hu
  obtain ⟨j,hj⟩:=List.mem_iff_getElem?.1 hu;have hl:=(Yb.1 hj).1;rw [zrE] at hl;obtain ⟨u',e1,e2⟩:=key j hl;rw [zsN w b off _ j hl,e1] at hj;injection hj with hj
  rw [<- hj];exact e2
 ·intro j u hj
  have hl:=(Yb.1 hj).1;rw [zrE] at hl;obtain ⟨u',e1,e2⟩:=key j hl;rw [zsN w b off _ j hl,e1] at hj;injection hj with hj
  rw [ztg,e1,<- hj];rfl
theorem zuK {F:Nat->Prop}{d:Nat}:∀W vs (x:Xn),RX F d W vs x->∀u∈vs,u.oneCell' = true:=by
 intro W vs x h u hu;obtain ⟨A,m,c,d',rfl,rfl,_,_⟩:=h.open;simp at hu;rcases hu with rfl | rfl | rfl | rfl | rfl | rfl <;> rfl
structure zyr (w:World) (g:Nat) (cs:Array Value) (P:Nat->List Value->Xn->Prop) (xs:List Xn):Prop where
 blk:Blk w g 82 cs
 size:xs.length*6<=cs.size
 each:∀ (j:Nat) (x:Xn),xs[j]? = some x->∃us:List Value,us.length=6/\(∀ (i:Nat) (v:Value),us[i]? = some v->cs[j*6+i]? = some v)/\P j us x
theorem zt3 {cs:Array Value}{p:Nat}{v0 v1 v2 v3 v4 v5:Value}(h:p+5<cs.size):∀ (i:Nat) (v:Value),[v0,v1,v2,v3,v4,v5][i]? = some v->((((((cs.setIfInBounds (p) (v0)).setIfInBounds (p+1) (v1)).setIfInBounds (p+2) (v2)).setIfInBounds (p+3) (v3)).setIfInBounds (p+4) (v4)).setIfInBounds (p+5) (v5))[p+i]? = some v:=by
 intro i v hi
 match i,hi with
 | 0,hi=>simp at hi;subst hi;simp [Array.getElem?_setIfInBounds];omega
 | 1,hi=>simp at hi;subst hi;simp [Array.getElem?_setIfInBounds];omega
 | 2,hi=>simp at hi;subst hi;simp [Array.getElem?_setIfInBounds];omega
 | 3,hi=>simp at hi;subst hi;simp [Array.getElem?_setIfInBounds];omega
 | 4,hi=>simp at hi;subst hi;simp [Array.getElem?_setIfInBounds];omega
 | 5,hi=>simp at hi;subst hi;simp [Array.getElem?_setIfInBounds];omega
 | n+6,hi=>simp at hi
theorem zt4 {cs:Array Value}{p:Nat}{v0 v1 v2 v3 v4 v5:Value}:∀i,(∀j,j<6->i≠p+j)->((((((cs.setIfInBounds (p) (v0)).setIfInBounds (p+1) (v1)).setIfInBounds (p+2) (v2)).setIfInBounds (p+3) (v3)).setIfInBounds (p+4) (v4)).setIfInBounds (p+5) (v5))[i]? = cs[i]?:=by
 intro i hi;have h0:=hi 0 (by omega);have h1:=hi 1 (by omega);have h2:=hi 2 (by omega);have h3:=hi 3 (by omega);have h4:=hi 4 (by omega);have h5:=hi 5 (by omega);rw [Xb (by omega),Xb (by omega),Xb (by omega),Xb (by omega),Xb (by omega),Xb (by omega)]
theorem zth {w:World}{g p:Nat}{t:TypeId}{cs:Array Value}(h:Blk w g t cs) (v0 v1 v2 v3 v4 v5:Value):Blk ((((((w.setCell ⟨g,p,none⟩ (v0)).setCell ⟨g,p+1,none⟩ (v1)).setCell ⟨g,p+2,none⟩ (v2)).setCell ⟨g,p+3,none⟩ (v3)).setCell ⟨g,p+4,none⟩ (v4)).setCell ⟨g,p+5,none⟩ (v5)) g t ((((((cs.setIfInBounds (p) (v0)).setIfInBounds (p+1) (v1)).setIfInBounds (p+2) (v2)).setIfInBounds (p+3) (v3)).setIfInBounds (p+4) (v4)).setIfInBounds (p+5) (v5)):=
 ((((((h.set_ p v0).set_ (p+1) v1).set_ (p+2) v2).set_ (p+3) v3).set_ (p+4) v4).set_ (p+5) v5)
theorem zue {w:World}{g p:Nat}(v0 v1 v2 v3 v4 v5:Value):KX g w ((((((w.setCell ⟨g,p,none⟩ (v0)).setCell ⟨g,p+1,none⟩ (v1)).setCell ⟨g,p+2,none⟩ (v2)).setCell ⟨g,p+3,none⟩ (v3)).setCell ⟨g,p+4,none⟩ (v4)).setCell ⟨g,p+5,none⟩ (v5)):=
 ((((((KX.set p v0).trans (KX.set (p+1) v1)).trans (KX.set (p+2) v2)).trans (KX.set (p+3) v3)).trans (KX.set (p+4) v4)).trans (KX.set (p+5) v5))
theorem zvr:(Tryz.prog.info? 82).map (fun i=>(i.zero,i.size,i.bytes))=some (some (.agg #[.int .i64 0,.int .i64 0,.int .i64 0,.string ⟨#[]⟩,.int .i64 0,.slice none 0 0]),6,72):=by kernel_rfl
theorem zsw (A:Option Addr) (n c:Nat) (F:Nat->Prop) (d:Nat) (xs:List Xn) (w:World) (h:Sl 6 (RX F d) w A n c xs) (hn:n<=1000) :
  Calls Tryz.prog 337 #[.slice A n c] w fun e w'=>Below w.heap.size w w'/\
   ((n=0/\∃A' c',e=.returned (.slice A' 0 c')/\c' <= 9223372036854775807)\/
    (0<n/\∃g c' cs,e=.returned (.slice (some ⟨g,0,none⟩) n c')/\n<=c'/\c' <= 9223372036854775807/\w.heap.size<=g/\zyr w' g cs (fun _ us x=>RX F d w us x) xs)):=by
 cases A with
 | none=>
  have h0:n=0:=by
   by_cases h0:0<n
   ·obtain ⟨b,off,e,_⟩:=h.at_ h0
    cases e
   ·omega
  subst h0;have hc:c<=9223372036854775807:=h.max;have hnil:=Lib.run_eql_slice_nil (P:=Tryz.prog) w 80 82 none 0 c 0 0 Tryz.underlying80;clear h;go_enter Tryz.func337,Tryz.ntmps337
  go_wp2_with fail
  go_ret;exact ⟨Yp _ _,.inl ⟨by first | rfl | trivial,none,0,rfl,by omega⟩⟩
 | some ad=>
  have hcap:=h.cap;have hmax:=h.max;have hnil:=Lib.run_eql_slice_nil (P:=Tryz.prog) w 80 82 (some ad) n c 0 0 Tryz.underlying80;obtain ⟨cs,hl,h1,h2,hrow⟩:∃cs:List Value,cs.length=n*6/\(∀u∈cs,u.oneCell' = true)/\(∀ (j:Nat) (u:Value),cs[j]? = some u->w.cell? (ad.add j)=some u)/\
    ∀ (j:Nat) (x:Xn),xs[j]? = some x->∃us:List Value,us.length=6/\(∀ (i:Nat) (v:Value),us[i]? = some v->cs[j*6+i]? = some v)/\RX F d w us x:=by
   by_cases h0:0<n
   ·obtain ⟨b,off,e,_⟩:=h.at_ h0
    injection e with e
    subst e;have hk:=zuQ h (by omega) zuK;refine ⟨cfr w b off (n*6),zrE _ _ _ _,hk.1,hk.2,fun j x hj=>?_⟩;have hjn:j<n:=by have:=(Yb.1 hj).1;have:=h.len;omega
    obtain ⟨x',vs,_,hx',hl,hR,hc⟩:=h.get' hjn;rw [hj] at hx';injection hx' with hx'
    subst hx';refine ⟨vs,hl,fun i v hi=>?_,hR⟩;have hik:i<6:=by have:=(Yb.1 hi).1;omega
    have h5:=zsN w b off (n*6) (j*6+i) (by omega);have h6:=hc i v hi;rw [Nat.add_assoc] at h6;rw [h5,h6];rfl
   ·have h00:xs=[]:=h.empty (by omega)
    subst h00;have hn0:n=0:=by omega
    subst hn0;exact ⟨[],rfl,by simp,by simp,by simp⟩
  have hlx:=h.len;have h2':∀ (j:Nat) (u:Value),cs[j]? = some u->(w.alloc (.cells #[] 82)).cell? (ad.add j)=some u:=fun j u hj=>by
   have hq:=h2 j u hj;have hlt:=World.block_lt_of_cell? w (ad.add j) hq;exact ((zAE w (.cells #[] 82)).cell (p:=ad.add j) hlt).trans hq
  obtain ⟨iB,hiB,hzB,hsB,hyB⟩:=info_parts zvr;have hb6:=zAE w (.cells #[] 82);have hz6:(w.alloc (.cells #[] 82)).heap.size=w.heap.size+1:=by simp
  have hz6a:=Ys hz6.symm;have HOW:Hid ((w.alloc (.cells #[] 82)).ownsRow w.heap.size 82 6 (.slice (some ⟨w.heap.size,0,none⟩) 0 0) 0 []):=⟨rfl,.inr ⟨w.heap.size,0,#[],rfl,Ya _,Blk.new _ _ _,Ya _,by simp [maxLen],rfl,rfl⟩⟩;have HROW:=Zh hrow;have HLX:=Zh hlx;have HL:=Zh hl;clear hz6 h hrow hlx;go_enter Tryz.func337,Tryz.ntmps337
  go_wp2_with (at_builtin;go_loud (refine wpList_append_own_at _ rfl _ _ 80 rfl w.heap.size 82 iB _ 6 72 Tryz.underlying80 hiB hzB hsB hyB rfl (by omega) (.slice (some ⟨w.heap.size,0,none⟩) 0 0) 0 [] rfl HOW.out ad n c cs rfl hl ?c1 h1 ?c2 ?c3 ?c4 ?_))
  case c1=>exact h2'
  case c2=>simp only [maxLen];omega
  case c3=>omega
  case c4=>omega
  intro v1 w6 ho6 hg6 _ _;have HBB:=Zh (hb6.trans ((Yp w.heap.size _).grown hg6 (by omega) (fun k hk=>by injection hk with hk;exact Ys hk)));have HO:=Zh ho6;clear ho6 hg6;go_wp2_with fail
  go_ret;refine ⟨HBB.out,?_⟩;rcases HO.out.2 with ⟨e1,hz⟩ | ⟨g,cap,cur,e1,hbg,hg,h1,h2,h3,h4⟩
  ·left
   exact ⟨by omega,none,0,by rw [e1];rfl,by omega⟩
  ·subst e1
   by_cases hn0:n=0
   ·subst hn0
    exact .inl ⟨by first | rfl | trivial,some ⟨g,0,none⟩,cap,rfl,by simpa [maxLen] using h2⟩
   ·refine .inr ⟨by omega,g,cap,cur,by simp,by omega,by simpa [maxLen] using h2,hbg,hg,?_,fun j x hj=>?_⟩
    ·rw [HLX.out,h3];exact Nat.mul_le_mul_right _ (by omega)
    ·obtain ⟨us,k1,k2,k3⟩:=HROW.out j x hj
     refine ⟨us,k1,fun i v hi=>?_,k3⟩;have hjn:j<n:=by have:=(Yb.1 hj).1;have:=HLX.out;omega
     have hik:i<6:=by have:=(Yb.1 hi).1;omega
     have h5:=k2 i v hi;have h4':cur.toList.take ((0+n)*6)=cs:=by simpa using h4
     rw [<- h4',Xf (by omega)] at h5
     simpa using h5
theorem zrr:∀l:List Xn,l.length<=(Xn.flats l).length
 | []=>Ya _
 | x::xs=>by
  have h1:=zrr xs;have h2:1<=x.flat.length:=by rw [Xn.flat_eq];simp
  rw [Xn.flats,Yu,List.length_cons];omega
theorem zrq:∀ {l:List Xn}{x:Xn},x∈l->x.flat.length<=(Xn.flats l).length
 | y::l,x,h=>by
  rw [Xn.flats,Yu];rcases List.mem_cons.1 h with rfl | h
  ·omega
  ·have:=zrq h;omega
section
variable (w:World) (c:Array Value) (t:TypeId) (c':Array Value) (t':TypeId) (d:Array Value) (s:TypeId) (d':Array Value) (s':TypeId)
theorem al1:∃W,w.alloc (.cells c t)=W/\Below w.heap.size w W/\Blk W w.heap.size t c:=⟨_,rfl,zAE _ _,Blk.new _ _ _⟩
theorem al2:∃W,(w.alloc (.cells c t)).alloc (.cells c' t')=W/\Below w.heap.size w W/\Blk W w.heap.size t c/\Blk W (w.heap.size+1) t' c':=
 ⟨_,rfl,zAA (zAE _ _) (zAE _ _),(Blk.new _ _ _).alloc _,Blk.newAt _ _ _ (by simp)⟩
theorem al3:∃W,((w.alloc (.cells c t)).alloc (.cells c' t')).alloc (.cells d s)=W/\Below w.heap.size w W/\Blk W w.heap.size t c/\Blk W (w.heap.size+1) t' c'/\Blk W (w.heap.size+1+1) s d:=by
 obtain ⟨W,e,hb,h1,h2⟩:=al2 w c t c' t';rw [e];have hs:w.heap.size+1+1=W.heap.size:=by rw [<- e];simp
 exact ⟨_,rfl,zAA hb (zAE _ _),h1.alloc _,h2.alloc _,hs ▸ Blk.new _ _ _⟩
end
section
variable {P:Program}{ops:Array Oper}{Q:Exit->Act->World->Prop}{md:Region.Mode}{S:World->Prop}{fuel:Nat}{listed:Array Bool}{a:Act}{w:World}{d:Option Tmp}{o:Op}{t:TypeId}{p:String}{af:Array Edge}{g:Option (Nat×Bool)}{v:Value}
theorem tkh (i:Nat) (hS:S w) (h:wpAnyH P md ops Q S fuel (listed.setIfInBounds i true) (a.put d v) w) (hi:ops[i]? = some ⟨d,o,t,p,af,g⟩:=by rfl) (hs:Region.noSelect ops=true:=by kernel_rfl) (hf:Region.free md ops listed i=true:=by kernel_rfl)
  (hr:(Region.ready md ops listed).contains i=true:=by kernel_rfl) (hw:Region.wanted ⟨d,o,t,p,af,g⟩ (yielded ops a.tmps)=true:=by rfl)
  (hv:∀w,S w->(execOp a.eval ⟨d,o,t,p,af,g⟩).run P w=.ok (.value v) w:=by (intro w hSw; (try dsimp only at hSw);go_simp;try (with_reducible rfl))) (hQ:∀c a w,Q (.panic c) (a.put d v) w->Q (.panic c) a w:=by exact fun _ _ _ h=>h):wpAnyH P md ops Q S (fuel+1) listed a w:=
 wpAnyH_take hi hs hf hr hQ (Or.inl ⟨hw,hv⟩) hS h
theorem tkc {C:World->Prop}(i:Nat) (hC:∀w,S w->C w) (hS:S w) (h:wpAnyH P md ops Q S fuel (listed.setIfInBounds i true) (a.put d v) w) (hi:ops[i]? = some ⟨d,o,t,p,af,g⟩:=by rfl) (hs:Region.noSelect ops=true:=by kernel_rfl) (hf:Region.free md ops listed i=true:=by kernel_rfl)
  (hr:(Region.ready md ops listed).contains i=true:=by kernel_rfl) (hw:Region.wanted ⟨d,o,t,p,af,g⟩ (yielded ops a.tmps)=true:=by rfl)
  (hv:∀w,C w->(execOp a.eval ⟨d,o,t,p,af,g⟩).run P w=.ok (.value v) w:=by (intro w hSw; (try dsimp only at hSw);go_simp;try (with_reducible rfl))) (hQ:∀c a w,Q (.panic c) (a.put d v) w->Q (.panic c) a w:=by exact fun _ _ _ h=>h):wpAnyH P md ops Q S (fuel+1) listed a w:=
 wpAnyH_take hi hs hf hr hQ (Or.inl ⟨hw,fun w h=>hv w (hC w h)⟩) hS h
theorem rdh (i:Nat) (h:∀K':Act->World->Prop,Shut (∀a w,S w->(S w->wpAnyH P md ops Q S fuel (listed.setIfInBounds i true) a w)->K' a w)->if Region.wanted ⟨d,o,t,p,af,g⟩ (yielded ops a.tmps)=true then Oper.wp P ⟨d,o,t,p,af,g⟩ a w K' Q else K' (a.put d undef) w)
  (hi:ops[i]? = some ⟨d,o,t,p,af,g⟩:=by rfl) (hr:Region.ready md ops listed=[i]:=by kernel_rfl):wpAnyH P md ops Q S (fuel+1) listed a w:=
 Yj hr (by simp) (Yc hi h Yd)
end
theorem zqv {w:World}{g:Nat}{t:TypeId}{a b c d e f:Value}(h:Blk w g t #[a,b,c,d,e,f]):w.cell? ⟨g,0,none⟩=some a/\w.cell? ⟨g,1,none⟩=some b/\w.cell? ⟨g,2,none⟩=some c/\w.cell? ⟨g,3,none⟩=some d/\w.cell? ⟨g,4,none⟩=some e/\w.cell? ⟨g,5,none⟩=some f:=⟨h.cell 0,h.cell 1,h.cell 2,h.cell 3,h.cell 4,h.cell 5⟩
theorem zsq {tmps:Array Value}{W:World}{g:Nat}{t:TypeId}{x0 x1 x2 x3 x4 x5:Value}(h2:tmps.getD 2 undef=.pointer (some ⟨g,0,none⟩)) (b2:Blk W g t #[x0,x1,x2,x3,x4,x5]) :
  (results Tryz.f295 tmps).run Tryz.prog W=.ok (.agg #[x0,x1,x2,x3,x4,x5]) W:=by
 obtain ⟨c0,c1,c2,c3,c4,c5⟩:=zqv b2;have h2':tmps[2]?.getD undef=.pointer (some ⟨g,0,none⟩):=by simpa using h2
 simp [results,Tryz.results295,h2',go_sem,c0,c1,c2,c3,c4,c5]
theorem zsd {w:World}{g:Nat}(y v0 v1 v2 v3 v4 v5:Value) {B:Nat}(hB:B<=g) :
  Below B w (((((((w.setCell ⟨g,5,none⟩ y).setCell ⟨g+1,0,none⟩ v0).setCell ⟨g+1,1,none⟩ v1).setCell ⟨g+1,2,none⟩ v2).setCell ⟨g+1,3,none⟩ v3).setCell ⟨g+1,4,none⟩ v4).setCell ⟨g+1,5,none⟩ v5):=
 ((((((((Yp B w).setCell (p:=⟨g,5,none⟩) hB y).setCell (p:=⟨g+1,0,none⟩) (by show B<=g+1;omega) v0).setCell (p:=⟨g+1,1,none⟩) (by show B<=g+1;omega) v1).setCell (p:=⟨g+1,2,none⟩) (by show B<=g+1;omega) v2).setCell (p:=⟨g+1,3,none⟩) (by show B<=g+1;omega) v3).setCell (p:=⟨g+1,4,none⟩) (by show B<=g+1;omega) v4).setCell (p:=⟨g+1,5,none⟩) (by show B<=g+1;omega) v5)
theorem zsr {w:World}{g:Nat}(y v0 v1 v2 v3 v4 v5:Value) {b:Nat}(h1:b≠g) (h2:b≠g+1) :
  (((((((w.setCell ⟨g,5,none⟩ y).setCell ⟨g+1,0,none⟩ v0).setCell ⟨g+1,1,none⟩ v1).setCell ⟨g+1,2,none⟩ v2).setCell ⟨g+1,3,none⟩ v3).setCell ⟨g+1,4,none⟩ v4).setCell ⟨g+1,5,none⟩ v5).heap[b]? = w.heap[b]?:=
 (Yl _ _ _ _ h2).trans ((Yl _ _ _ _ h2).trans ((Yl _ _ _ _ h2).trans ((Yl _ _ _ _ h2).trans ((Yl _ _ _ _ h2).trans ((Yl _ _ _ _ h2).trans (Yl _ _ _ _ h1))))))
theorem zru:∀ (d:Nat) (F:Nat->Prop) (us:List Value) (x:Xn) (w:World),RX F d w us x->(∀b,F b->b<w.heap.size)->x.flat.length<=1000->
  Calls Tryz.prog 295 #[.agg us.toArray] w fun e W'=>∃us',e=.returned (.agg us'.toArray)/\RX (fun b=>w.heap.size<=b) d W' us' x/\Below w.heap.size w W':=by
 intro d
 induction d with
 | zero=>intro F us x w h;exact h.elim
 | succ d ih=>
  rintro F us ⟨k,a,b,s,n,l⟩ w ⟨A,m,c,rfl,hS,hA⟩ hF hsz
  have hsz2:1+(Xn.flats l).length<=1000:=by rw [Xn.flat_eq] at hsz;simpa [Xn.l,Nat.add_comm] using hsz
  have hm:m<=1000:=by have:=zrr l;have:=hS.len;omega
  have hcap:=hS.cap;have hmax:=hS.max;obtain ⟨W0,e0,hb0,k0,k1⟩:=al2 w #[.int .i64 k,.int .i64 a,.int .i64 b,.string s,.int .i64 n,.slice A m c] 82 #[.int .i64 0,.int .i64 0,.int .i64 0,.string ⟨#[]⟩,.int .i64 0,.slice none 0 0] 82;obtain ⟨q0,q1,q2,q3,q4,q5⟩:=zqv k0;have HC:=Zh (zsw A m c F d l W0 (hS.next (zqX F d) hb0) hm);have HIH:=Zh ih;have HF:=Zh hF;have HL:=Zh hS.len;have HZ:=Zh hsz2;have HB0:=Zh hb0;have K0:=Zh k0;have K1:=Zh k1;clear ih hF hS hA hsz hsz2 hb0 k0 k1;go_enter Tryz.func295,Tryz.ntmps295
  go_wp2_with fail
  clear q0 q1 q2 q3 q4 q5 e0;refine HC.out.mono ?_;rintro e W1 ⟨hb1,hcase⟩
  have hsz0:=K1.out.lt;have hsz1:=hb1.size;replace K0:=Zh (K0.out.below hb1 K0.out.lt);replace K1:=Zh (K1.out.below hb1 K1.out.lt);replace HB0:=Zh (zAA HB0.out hb1);rcases hcase with ⟨rfl,A',c',rfl,hc'⟩ | ⟨hm0,g,c',cs,rfl,h1,h2,hg,hR⟩
  ·have hl0:l=[]:=List.eq_nil_of_length_eq_zero HL.out
   subst hl0;clear hb1 HC;go_wp2_with fail
   go_loopw [10] (fun i wr=>i=.int .i64 0/\wr=W1) (fun _ _=>0)
   case atStart=>exact ⟨rfl,rfl⟩
   case round=>
    obtain ⟨rfl,rfl⟩:=hrel;have hk0:=K0.out;have hk1:=K1.out;obtain ⟨p0,p1,p2,p3,p4,p5⟩:=zqv hk0;have f5:=hk0.frozen 5;have hj0:=hk0.set_ 5 (.slice A' 0 c');have hj1:=hk1.far (p:=⟨w.heap.size,5,none⟩) (show w.heap.size+1≠w.heap.size by omega) (.slice A' 0 c');replace hj0:Blk (wr.setCell ⟨w.heap.size,5,none⟩ (.slice A' 0 c')) w.heap.size 82 #[.int .i64 k,.int .i64 a,.int .i64 b,.string s,.int .i64 n,.slice A' 0 c']:=hj0;obtain ⟨s0,s1,s2,s3,s4,s5⟩:=zqv hj0;obtain ⟨t0,t1,t2,t3,t4,t5⟩:=zqv hj1;have g0:=hj1.frozen 0;have g1:=hj1.frozen 1;have g2:=hj1.frozen 2;have g3:=hj1.frozen 3;have g4:=hj1.frozen 4;have g5:=hj1.frozen 5;have hr:Blk (((((((wr.setCell ⟨w.heap.size,5,none⟩ (.slice A' 0 c')).setCell ⟨w.heap.size+1,0,none⟩ (.int .i64 k)).setCell ⟨w.heap.size+1,1,none⟩ (.int .i64 a)).setCell ⟨w.heap.size+1,2,none⟩ (.int .i64 b)).setCell ⟨w.heap.size+1,3,none⟩ (.string s)).setCell ⟨w.heap.size+1,4,none⟩ (.int .i64 n)).setCell ⟨w.heap.size+1,5,none⟩ (.slice A' 0 c')) (w.heap.size+1) 82 #[.int .i64 k,.int .i64 a,.int .i64 b,.string s,.int .i64 n,.slice A' 0 c']:=((((((hj1.set_ 0 (.int .i64 k)).set_ 1 (.int .i64 a)).set_ 2 (.int .i64 b)).set_ 3 (.string s)).set_ 4 (.int .i64 n)).set_ 5 (.slice A' 0 c'));have HR:=Zh hr;clear hk0 hk1 hj0 hj1 hr;go_wp2_with fail
    refine Yn (zsq rfl HR.out) rfl ?_;exact ⟨[_,_,_,_,_,_],rfl,⟨A',0,c',rfl,⟨rfl,Nat.zero_le _,hc',fun h=>absurd h (by omega)⟩,fun h=>absurd h (by omega)⟩,HB0.out.trans (zsd _ _ _ _ _ _ _ (Ya _))⟩
  ·have HR:=Zh hR
   have hgW:W0.heap.size<=g:=hg;have HB1:=Zh hb1;have hgl:=hR.blk.lt;clear hR HC hb1;go_wp2_with fail
   go_loopw [10] (fun i wr=>∃ (j:Nat) (cs:Array Value),j<=m/\i=.int .i64 j/\Hid (KX g W1 wr)/\Hid (zyr wr g cs (fun q us x=>(q<j->RX (fun b=>g<b) d wr us x)/\(j<=q->RX F d wr us x)) l)) (fun i _=>m - (intOf i).toNat)
   case atStart=>exact ⟨0,cs,Nat.zero_le _,rfl,KX.refl _ _,HR.out.blk,HR.out.size,fun q x hq=>by
    obtain ⟨us,a1,a2,a3⟩:=HR.out.each q x hq;exact ⟨us,a1,a2,fun h=>absurd h (by omega),fun _=>zqX F d _ _ _ _ a3 HB1.out⟩⟩
   case round=>
    obtain ⟨j,cs,hj,rfl,HK,HQ⟩:=hrel;have hwr:=HK.out.size;by_cases hlt:j<m
    ·have hjl:j<l.length:=by rw [HL.out];exact hlt
     have hly:=Yo hjl;have hlm:=List.getElem_mem hjl;generalize l[j]=y at *;obtain ⟨us,hu6,hcell,hP⟩:=HQ.out.each j y hly;have hrx:=hP.2 (Ya _);obtain ⟨v0,v1,v2,v3,v4,v5,rfl⟩:=zrj hu6;have hkb:=HQ.out.blk;have hsz9:=HQ.out.size;have hcz:j*6+5<cs.size:=by have:=HL.out;omega
     have hgr:=hkb.lt;have q0:wr.cell? ⟨g,j*6,none⟩=some v0:=(hkb.cell _).trans (hcell 0 _ rfl);have q1:wr.cell? ⟨g,j*6+1,none⟩=some v1:=(hkb.cell _).trans (hcell 1 _ rfl);have q2:wr.cell? ⟨g,j*6+2,none⟩=some v2:=(hkb.cell _).trans (hcell 2 _ rfl);have q3:wr.cell? ⟨g,j*6+3,none⟩=some v3:=(hkb.cell _).trans (hcell 3 _ rfl);have q4:wr.cell? ⟨g,j*6+4,none⟩=some v4:=(hkb.cell _).trans (hcell 4 _ rfl);have q5:wr.cell? ⟨g,j*6+5,none⟩=some v5:=(hkb.cell _).trans (hcell 5 _ rfl);have hflen:y.flat.length<=1000:=by have:=zrq hlm;have:=HZ.out;omega
     have HCJ:=Zh (HIH.out F _ y wr hrx (fun b hb=>Yh (HF.out b hb) (by have:=HB0.out.size;omega)) hflen);have HKB:=Zh hkb;clear hrx hP hflen hcell hkb;have Q0:=Zh q0;have Q1:=Zh q1;have Q2:=Zh q2;have Q3:=Zh q3;have Q4:=Zh q4;have Q5:=Zh q5;go_wp2_with fail
     clear q0 q1 q2 q3 q4 q5;refine HCJ.out.mono ?_;rintro e W2 ⟨us',rfl,hrx',hb2⟩
     obtain ⟨A2,m2,c2,d2,_,rfl,_,_⟩:=hrx'.open;have hkb2:=HKB.out.below hb2 hgr;have r0:W2.cell? ⟨g,j*6,none⟩=some v0:=(hb2.cell (p:=⟨g,j*6,none⟩) hgr).trans Q0.out;have f0:=hkb2.frozen (j*6);have r1:W2.cell? ⟨g,j*6+1,none⟩=some v1:=(hb2.cell (p:=⟨g,j*6+1,none⟩) hgr).trans Q1.out;have f1:=hkb2.frozen (j*6+1);have r2:W2.cell? ⟨g,j*6+2,none⟩=some v2:=(hb2.cell (p:=⟨g,j*6+2,none⟩) hgr).trans Q2.out;have f2:=hkb2.frozen (j*6+2);have r3:W2.cell? ⟨g,j*6+3,none⟩=some v3:=(hb2.cell (p:=⟨g,j*6+3,none⟩) hgr).trans Q3.out;have f3:=hkb2.frozen (j*6+3);have r4:W2.cell? ⟨g,j*6+4,none⟩=some v4:=(hb2.cell (p:=⟨g,j*6+4,none⟩) hgr).trans Q4.out;have f4:=hkb2.frozen (j*6+4);have r5:W2.cell? ⟨g,j*6+5,none⟩=some v5:=(hb2.cell (p:=⟨g,j*6+5,none⟩) hgr).trans Q5.out;have f5:=hkb2.frozen (j*6+5);have HRX:=Zh hrx';have HB2:=Zh hb2;have HKB2:=Zh hkb2;clear hrx' hb2 hkb2 HCJ;go_wp2_with fail
     have hkx:=zue (w:=W2) (g:=g) (p:=j*6) (.int .i64 y.k) (.int .i64 y.a) (.int .i64 y.b) (.string y.s) (.int .i64 y.n) (.slice A2 m2 c2);refine ⟨⟨j+1,_,by omega,by go_num,HK.out.trans ((KX.of HB2.out).trans hkx),zth HKB2.out (.int .i64 y.k) (.int .i64 y.a) (.int .i64 y.b) (.string y.s) (.int .i64 y.n) (.slice A2 m2 c2),by simpa using hsz9,fun q x hq=>?_⟩,by simp [intOf];omega⟩;by_cases hqj:q=j
     ·subst hqj
      rw [hly] at hq;injection hq with hq
      subst hq;refine ⟨[.int .i64 y.k,.int .i64 y.a,.int .i64 y.b,.string y.s,.int .i64 y.n,.slice A2 m2 c2],rfl,zt3 hcz,fun _=>?_,fun h=>absurd h (by omega)⟩;exact HRX.out.keep (fun b hb=>by omega) hkx.size (fun b o v hb hc=>hkx.cell (by omega) hc) _ _ _
     ·obtain ⟨us,a1,a2,a3,a4⟩:=HQ.out.each q x hq
      refine ⟨us,a1,fun i v hi=>?_,fun h=>hkx.rx (fun b hb=>by omega) (zqX _ _ _ _ _ _ (a3 (by omega)) HB2.out),fun h=>hkx.rx (fun b hb=>by have:=HF.out b hb;have:=HB0.out.size;omega) (zqX _ _ _ _ _ _ (a4 (by omega)) HB2.out)⟩;have hi6:i<6:=by have:=(Yb.1 hi).1;omega
      rw [zt4 _ (fun z hz=>by omega)];exact a2 i v hi
    ·obtain rfl:j=m:=by omega
     replace K0:=Zh (HK.out.blk K0.out (by omega));replace K1:=Zh (HK.out.blk K1.out (by omega));have HBW:=Zh (HB0.out.trans ((HK.out.below (by omega)).mono (by omega)));have HKB:=Zh HQ.out.blk;have HEA:=Zh HQ.out.each;clear HQ;have hk0:=K0.out;have hk1:=K1.out;obtain ⟨p0,p1,p2,p3,p4,p5⟩:=zqv hk0;have f5:=hk0.frozen 5;have hj0:=hk0.set_ 5 (.slice (some ⟨g,0,none⟩) j c');have hj1:=hk1.far (p:=⟨w.heap.size,5,none⟩) (show w.heap.size+1≠w.heap.size by omega) (.slice (some ⟨g,0,none⟩) j c');replace hj0:Blk (wr.setCell ⟨w.heap.size,5,none⟩ (.slice (some ⟨g,0,none⟩) j c')) w.heap.size 82 #[.int .i64 k,.int .i64 a,.int .i64 b,.string s,.int .i64 n,.slice (some ⟨g,0,none⟩) j c']:=hj0;obtain ⟨s0,s1,s2,s3,s4,s5⟩:=zqv hj0;obtain ⟨t0,t1,t2,t3,t4,t5⟩:=zqv hj1;have g0:=hj1.frozen 0;have g1:=hj1.frozen 1;have g2:=hj1.frozen 2;have g3:=hj1.frozen 3;have g4:=hj1.frozen 4;have g5:=hj1.frozen 5;have hr:Blk (((((((wr.setCell ⟨w.heap.size,5,none⟩ (.slice (some ⟨g,0,none⟩) j c')).setCell ⟨w.heap.size+1,0,none⟩ (.int .i64 k)).setCell ⟨w.heap.size+1,1,none⟩ (.int .i64 a)).setCell ⟨w.heap.size+1,2,none⟩ (.int .i64 b)).setCell ⟨w.heap.size+1,3,none⟩ (.string s)).setCell ⟨w.heap.size+1,4,none⟩ (.int .i64 n)).setCell ⟨w.heap.size+1,5,none⟩ (.slice (some ⟨g,0,none⟩) j c')) (w.heap.size+1) 82 #[.int .i64 k,.int .i64 a,.int .i64 b,.string s,.int .i64 n,.slice (some ⟨g,0,none⟩) j c']:=((((((hj1.set_ 0 (.int .i64 k)).set_ 1 (.int .i64 a)).set_ 2 (.int .i64 b)).set_ 3 (.string s)).set_ 4 (.int .i64 n)).set_ 5 (.slice (some ⟨g,0,none⟩) j c'));have HR:=Zh hr;clear hk0 hk1 hj0 hj1 hr;go_wp2_with fail
     refine Yn (zsq rfl HR.out) rfl ?_;refine ⟨[_,_,_,_,_,_],rfl,⟨some ⟨g,0,none⟩,j,c',rfl,⟨HL.out,h1,h2,fun _=>⟨g,0,rfl,?_,fun q x hq=>?_⟩⟩,fun _=>⟨g,0,rfl,by omega⟩⟩,HBW.out.trans (zsd _ _ _ _ _ _ _ (Ya _))⟩
     ·have:=HKB.out.lt
      simpa [World.setCell] using this
     ·obtain ⟨us,a1,a2,a3,_⟩:=HEA.out q x hq
      have hqj:q<j:=by have:=(Yb.1 hq).1;have:=HL.out;omega
      refine ⟨us,a1,(a3 hqj).keep (fun b hb=>by omega) (zsd (B:=0) _ _ _ _ _ _ _ (Nat.zero_le _)).size (fun b o v hb hc=>(World.cell?_of_block (w:=wr) (a:=⟨b,o,none⟩) (zsr (b:=b) _ _ _ _ _ _ _ (by omega) (by omega))).trans hc) _ _ _,fun i v hi=>?_⟩;refine (World.cell?_of_block (w:=wr) (a:=⟨g,0+q*6+i,none⟩) (zsr (b:=g) _ _ _ _ _ _ _ (by omega) (by omega))).trans ?_;rw [Nat.zero_add,HKB.out.cell];exact a2 i v hi
open Go.Shelf
attribute [local go_sem] Oper.semAt_some
structure Nd where
 k:Int
 a:Int
 b:Int
 s:ByteArray
 i:Int
 la:Option Addr
 ln:Nat
 lc:Nat
def Nd.L (x:Nd):Value:=.slice x.la x.ln x.lc
abbrev Nd.v (x:Nd):Value:=.agg #[.int .i64 x.k,.int .i64 x.a,.int .i64 x.b,.string x.s,.int .i64 x.i,x.L]
theorem zGa {w:World}{g:Nat}{t:TypeId}{a b c d e f:Value}(h:Blk w g t #[a,b,c,d,e,f]):w.cell? ⟨g,0,none⟩=some a/\w.cell? ⟨g,1,none⟩=some b/\w.cell? ⟨g,2,none⟩=some c/\w.cell? ⟨g,3,none⟩=some d/\w.cell? ⟨g,4,none⟩=some e/\w.cell? ⟨g,5,none⟩=some f:=⟨h.cell 0,h.cell 1,h.cell 2,h.cell 3,h.cell 4,h.cell 5⟩
def named (b3:Nat) (W:World) (b:Nat):Prop:=∃v,W.cell? ⟨b3,0,none⟩=some v/\v.ownBlock=some b
def Wf (b3:Nat) (W:World):Prop:=b3<W.heap.size/\∀b,named b3 W b->b<W.heap.size
def Kp (b3:Nat) (A B:World):Prop:=Wf b3 A->Wf b3 B/\A.heap.size<=B.heap.size/\(∀b o,b≠b3->¬ named b3 A b->A.heap[b]? = some o->o.isCells=true->B.heap[b]? = some o)/\∀b,named b3 B b->named b3 A b\/A.heap.size<=b
theorem zCX {b3:Nat}{A B:World}(h:B.heap[b3]? = A.heap[b3]?) {b:Nat}(hn:named b3 B b):named b3 A b:=by
 obtain ⟨v,h1,h2⟩:=hn;refine ⟨v,?_,h2⟩;rw [<- h1];simp only [World.cell?,h]
theorem zCi {b3:Nat}{A:World}(o:Obj) (h3:b3<A.heap.size) {b:Nat}(hn:named b3 (A.alloc o) b):named b3 A b:=zCX (Below.heap_alloc _ _ _ h3) hn
theorem Wf.below {b3:Nat}{A B:World}(hw:Wf b3 A) (h:Below A.heap.size A B):Wf b3 B:=
 ⟨Yh hw.1 h.size,fun b hn=>Yh (hw.2 b (zCX (h.block b3 hw.1) hn)) h.size⟩
theorem Wf.alloc {b3:Nat}{A:World}(hw:Wf b3 A) (o:Obj):Wf b3 (A.alloc o):=hw.below ((Yp _ A).alloc (Ya _) _)
theorem Kp.refl (b3:Nat) (A:World):Kp b3 A A:=fun h=>⟨h,Ya _,fun _ _ _ _ h _=>h,fun _ h=>.inl h⟩
theorem Kp.trans {b3:Nat}{A B C:World}(h:Kp b3 A B) (k:Kp b3 B C):Kp b3 A C:=fun hw=>by
 obtain ⟨w1,s1,k1,n1⟩:=h hw;obtain ⟨w2,s2,k2,n2⟩:=k w1;refine ⟨w2,Yq s1 s2,fun b o hb hn ho hc=>k2 b o hb (fun hn'=>?_) (k1 b o hb hn ho hc) hc,fun b hn=>?_⟩
 ·rcases n1 b hn' with h | h
  ·exact hn h
  ·have:=(Yv.1 ho).1
   omega
 ·rcases n2 b hn with h | h
  ·exact n1 b h
  ·exact .inr (Yq s1 h)
theorem Kp.alloc {b3:Nat}{A B:World}(h:Kp b3 A B) (o:Obj):Kp b3 A (B.alloc o):=fun hw=>by
 obtain ⟨w1,s1,k1,n1⟩:=h hw;exact ⟨w1.alloc o,by simp;omega,fun b o' hb hn ho hc=>(Below.heap_alloc _ _ _ (Yv.1 (k1 b o' hb hn ho hc)).1).trans (k1 b o' hb hn ho hc),fun b hn=>n1 b (zCi o w1.1 hn)⟩
theorem zIU {A:World}{b o:Nat}{v:Value}(h:A.cell? ⟨b,o,none⟩=some v):∃ob,A.heap[b]? = some ob/\ob.isCells=true:=by
 cases hb:A.heap[b]? with
 | none=>simp [World.cell?,hb] at h
 | some ob=>exact ⟨ob,rfl,by cases ob <;> simp_all [World.cell?,Obj.isCells]⟩
theorem Kp.cell {b3:Nat}{A B:World}(h:Kp b3 A B) (hw:Wf b3 A) {b o:Nat}{v:Value}(hb:b≠b3) (hn:¬ named b3 A b) (hc:A.cell? ⟨b,o,none⟩=some v):B.cell? ⟨b,o,none⟩=some v:=by
 obtain ⟨ob,h1,h2⟩:=zIU hc;have h3:=(h hw).2.2.1 b ob hb hn h1 h2;rw [<- hc];simp only [World.cell?,h1,h3]
theorem Kp.unnamed {b3:Nat}{A B:World}(h:Kp b3 A B) (hw:Wf b3 A) {b:Nat}(hb:b<A.heap.size) (hn:¬ named b3 A b):¬ named b3 B b:=fun hn'=>by
 rcases (h hw).2.2.2 b hn' with h | h
 ·exact hn h
 ·omega
theorem zKj (p l:Nat) (y:Nd) (w:World) (hg:w.cell? ⟨p,0,none⟩=some (.func (.yield l) #[] #[])) (R:Bool->World->Prop)
  (hp:Calls Tryz.prog 294 #[y.v,.func (.yield l) #[] #[]] (w.alloc (.cells #[.int .i64 y.k,.int .i64 y.a,.int .i64 y.b,.string y.s,.int .i64 y.i,y.L] 82)) (Ret R)) :
  Calls Tryz.prog 336 #[y.v,.pointer (some ⟨p,0,none⟩)] w (Ret R):=by
 have h1:(w.alloc (.cells #[.int .i64 y.k,.int .i64 y.a,.int .i64 y.b,.string y.s,.int .i64 y.i,y.L] 82)).cell? ⟨p,0,none⟩=some (.func (.yield l) #[] #[]):=cell_kept hg (World.grownBy_alloc w _ none) (fun r e=>by cases e);have HN:=Blk.new w 82 #[.int .i64 y.k,.int .i64 y.a,.int .i64 y.b,.string y.s,.int .i64 y.i,y.L];obtain ⟨q0,q1,q2,q3,q4,q5⟩:=zGa HN;have HP:=Zh hp;clear hp;go_enter Tryz.func336,Tryz.ntmps336
 go_wp2_with (go_at_call 294;refine HP.out.mono ?_;rintro e w' ⟨t,rfl,hR⟩)
 go_ret;exact ⟨t,rfl,hR⟩
def Nd.pr (x:Nd):Int×ByteArray:=(x.k,x.s)
def Xn.pr (x:Xn):Int×ByteArray:=(x.k,x.s)
def WX (b3:Nat) (J Jx:List Nd->World->Prop) (pre:List Nd) (E:List Xn) (W:World):Bool->World->Prop:=fun t W'=>(t=true/\(∃ys:List Nd,ys.map Nd.pr=E.map Xn.pr/\J (pre++ys) W')/\Kp b3 W W')\/(t=false/\∃q,Jx (pre++q) W')
theorem WX.cons {b3:Nat}{J Jx:List Nd->World->Prop}{pre:List Nd}{E:List Xn}{x:Nd}{e:Xn}(he:x.pr=e.pr) {W W1 W':World}(hk:Kp b3 W W1) {t:Bool}(h:WX b3 J Jx (pre++[x]) E W1 t W'):WX b3 J Jx pre (e::E) W t W':=by
 rcases h with ⟨rfl,⟨ys,hy,hj⟩,hk2⟩ | ⟨rfl,q,hx⟩
 ·exact .inl ⟨rfl,⟨x::ys,by simp [he,hy],by simpa using hj⟩,hk.trans hk2⟩
 ·exact .inr ⟨rfl,x::q,by simpa using hx⟩
theorem zKZ (l b3:Nat) (J Jx:List Nd->World->Prop) (E:List Xn) (e0:Xn) (x:Nd) (he0:x.pr=e0.pr) (pre:List Nd) (W:World) (hw:Wf b3 W)
  (hY:YieldAt Fence.wide 2 Tryz.prog l #[x.v] ((W.alloc (.cells #[.int .i64 x.k,.int .i64 x.a,.int .i64 x.b,.string x.s,.int .i64 x.i,x.L] 82)).alloc (.cells #[.func (.yield l) #[] #[]] 101)) fun e W'=>
   (e=.returned (.bool true)/\J (pre++[x]) W'/\Kp b3 ((W.alloc (.cells #[.int .i64 x.k,.int .i64 x.a,.int .i64 x.b,.string x.s,.int .i64 x.i,x.L] 82)).alloc (.cells #[.func (.yield l) #[] #[]] 101)) W')\/(e=.returned (.bool false)/\Jx (pre++[x]) W'))
  (hE:∀W3,J (pre++[x]) W3->Kp b3 W W3->W3.cell? ⟨W.heap.size+1,0,none⟩=some (.func (.yield l) #[] #[])->¬ named b3 W3 (W.heap.size+1)->Calls Tryz.prog 335 #[x.L,.func (.func 336) #[] #[.pointer (some ⟨W.heap.size+1,0,none⟩)]] W3 (Ret (WX b3 J Jx (pre++[x]) E W3))) :
  Calls Tryz.prog 294 #[x.v,.func (.yield l) #[] #[]] W (Ret (WX b3 J Jx pre (e0::E) W)):=by
 have HN:=(Blk.new W 82 #[.int .i64 x.k,.int .i64 x.a,.int .i64 x.b,.string x.s,.int .i64 x.i,x.L]).alloc (.cells #[.func (.yield l) #[] #[]] 101);have HM:=Blk.new (W.alloc (.cells #[.int .i64 x.k,.int .i64 x.a,.int .i64 x.b,.string x.s,.int .i64 x.i,x.L] 82)) 101 #[.func (.yield l) #[] #[]];rw [World.size_alloc] at HM;have hk2:Kp b3 W ((W.alloc (.cells #[.int .i64 x.k,.int .i64 x.a,.int .i64 x.b,.string x.s,.int .i64 x.i,x.L] 82)).alloc (.cells #[.func (.yield l) #[] #[]] 101)):=((Kp.refl b3 W).alloc _).alloc _;have hs2:((W.alloc (.cells #[.int .i64 x.k,.int .i64 x.a,.int .i64 x.b,.string x.s,.int .i64 x.i,x.L] 82)).alloc (.cells #[.func (.yield l) #[] #[]] 101)).heap.size=W.heap.size+2:=by simp
 have hb:=hw.1;have hw2:=(hk2 hw).1;have hn0:¬ named b3 ((W.alloc (.cells #[.int .i64 x.k,.int .i64 x.a,.int .i64 x.b,.string x.s,.int .i64 x.i,x.L] 82)).alloc (.cells #[.func (.yield l) #[] #[]] 101)) W.heap.size:=fun hn=>Nat.lt_irrefl _ (hw.2 _ (zCi _ hb (zCi _ (by simp;omega) hn)))
 have hn1:¬ named b3 ((W.alloc (.cells #[.int .i64 x.k,.int .i64 x.a,.int .i64 x.b,.string x.s,.int .i64 x.i,x.L] 82)).alloc (.cells #[.func (.yield l) #[] #[]] 101)) (W.heap.size+1):=fun hn=>by
  have:=hw.2 _ (zCi _ hb (zCi _ (by simp;omega) hn));omega
 obtain ⟨fn,tmps,assign,body,hy,hR⟩:=hY;refine (callsIn_wide (n:=3)).1 ?_;refine callsIn_of_wp Tryz.func294 rfl trivial ?_ rfl;simp only [Tryz.ntmps294,List.size_toArray,List.length_cons,List.length_nil,Nat.reduceAdd,Nat.reduceSub,Array.replicate_succ,Array.replicate_zero,List.push_toArray,List.append_toArray,List.nil_append,List.cons_append];apply wpIn_seq
 gi_wp2
 generalize (W.alloc (.cells #[.int .i64 x.k,.int .i64 x.a,.int .i64 x.b,.string x.s,.int .i64 x.i,x.L] 82)).alloc (.cells #[.func (.yield l) #[] #[]] 101)=W2 at *;refine hR.mono ?_;clear hR;rintro e W3 (⟨rfl,hJ3,hk3⟩ | ⟨rfl,hx3⟩)
 ·have c5:W3.cell? ⟨W.heap.size,5,none⟩=some x.L:=hk3.cell hw2 (by omega) hn0 (HN.cell 5)
  have cM:W3.cell? ⟨W.heap.size+1,0,none⟩=some (.func (.yield l) #[] #[]):=hk3.cell hw2 (by omega) hn1 (HM.cell 0);have hE3:=hE W3 hJ3 (hk2.trans hk3) cM (hk3.unnamed hw2 (by omega) hn1);clear hE
  gi_wp2
  refine ⟨trivial,?_⟩;refine (callsIn_wide.2 hE3).mono ?_;rintro e W4 ⟨t,rfl,hR4⟩
  cases t
  ·gi_wp2
   go_ret;exact ⟨false,rfl,hR4.cons he0 (hk2.trans hk3)⟩
  ·gi_wp2
   go_ret;exact ⟨true,rfl,hR4.cons he0 (hk2.trans hk3)⟩
 ·gi_wp2
  refine ⟨trivial,?_⟩
  gi_wp2
  go_ret;exact ⟨false,rfl,.inr ⟨rfl,[x],hx3⟩⟩
theorem WX.from {b3:Nat}{J Jx:List Nd->World->Prop}{pre:List Nd}{E:List Xn}{W W1 W':World}(hk:Kp b3 W W1) {t:Bool}(h:WX b3 J Jx pre E W1 t W'):WX b3 J Jx pre E W t W':=
 h.elim (fun ⟨h1,h2,h3⟩=>.inl ⟨h1,h2,hk.trans h3⟩) .inr
theorem Ret.mono {R R':Bool->World->Prop}(h:∀t w,R t w->R' t w) {e:Ending}{w:World}:Ret R e w->Ret R' e w:=fun ⟨t,h1,h2⟩=>⟨t,h1,h _ _ h2⟩
theorem Kp.rx {b3:Nat}{A B:World}(h:Kp b3 A B) (hw:Wf b3 A) {F:Nat->Prop}(hF:∀b,F b->b≠b3/\b<A.heap.size/\¬ named b3 A b) {d:Nat}{us:List Value}{x:Xn}(hx:RX F d A us x):RX F d B us x:=
 hx.keep (fun _ h=>h) (h hw).2.1 (fun b _ _ hb hc=>h.cell hw (hF b hb).1 (hF b hb).2.2 hc) _ _ _
theorem zt6 (l b3 N:Nat) (J Jx:List Nd->World->Prop) (hJa:∀s W o,J s W->J s (W.alloc o))
  (hY:∀pre x W,J pre W->pre.length<N->YieldAt Fence.wide 2 Tryz.prog l #[Nd.v x] W fun e W'=>
   (e=.returned (.bool true)/\J (pre++[x]) W'/\Kp b3 W W')\/(e=.returned (.bool false)/\Jx (pre++[x]) W')) :
  ∀ (d:Nat) (F:Nat->Prop) (us:List Value) (x:Xn) (pre:List Nd) (W:World),RX F d W us x->(∀b,F b->b≠b3/\b<W.heap.size/\¬ named b3 W b)->J pre W->pre.length+x.flat.length<=N->Wf b3 W->
   Calls Tryz.prog 294 #[.agg us.toArray,.func (.yield l) #[] #[]] W (Ret (WX b3 J Jx pre x.flat W)):=by
 intro d
 induction d with
 | zero=>intro F us x pre W h;exact h.elim
 | succ d ih=>
  intro F us x pre W hx hF hJ hN hb;obtain ⟨A,m,c,d',e,rfl,hS,hA⟩:=hx.open;injection e with e
  subst e;have hxe:Nd.pr ⟨x.k,x.a,x.b,x.s,x.n,A,m,c⟩=x.pr:=rfl;have hfl:x.flat.length=1+(Xn.flats x.l).length:=by rw [Xn.flat_eq,List.length_cons];omega
  rw [Xn.flat_eq];refine zKZ l b3 J Jx (Xn.flats x.l) x ⟨x.k,x.a,x.b,x.s,x.n,A,m,c⟩ hxe pre W hb (hY pre _ _ (hJa _ _ _ (hJa _ _ _ hJ)) (by omega)) fun W3 hJ3 hk3 cM hnn=>?_
  have hw3:=(hk3 hb).1;have hs3:=(hk3 hb).2.1;refine (zuZ A m c 336 #[.pointer (some ⟨W.heap.size+1,0,none⟩)] W3
   (fun j W'=>(∃ys:List Nd,ys.map Nd.pr=(Xn.flats (x.l.take j)).map Xn.pr/\J (pre++[⟨x.k,x.a,x.b,x.s,x.n,A,m,c⟩]++ys) W')/\Kp b3 W3 W')
   (fun W'=>∃q,Jx (pre++[⟨x.k,x.a,x.b,x.s,x.n,A,m,c⟩]++q) W') (Kp b3) hS.cap hS.max (zDJ Tryz.func336 (by kernel_rfl) rfl)
   (fun j W' o h=>⟨h.1.imp fun ys hy=>⟨hy.1,hJa _ _ _ hy.2⟩,h.2.alloc o⟩) (Kp.refl b3) (fun _ _ _=>Kp.trans) (fun W' o=>(Kp.refl _ _).alloc o) (fun ty W' hk=>?_) (fun j hj=>?_) ⟨⟨[],by simp [Xn.flats],by simpa using hJ3⟩,Kp.refl _ _⟩).mono ?_
  ·have hwa:=hw3.alloc (.cells #[.func (.func 336) #[] #[.pointer (some ⟨W.heap.size+1,0,none⟩)]] ty)
   refine hk.cell hwa (by have:=hw3.1;omega) (fun hn=>Nat.lt_irrefl _ (hw3.2 _ (zCi _ hw3.1 hn))) ?_;have:=Blk.new W3 ty #[.func (.func 336) #[] #[.pointer (some ⟨W.heap.size+1,0,none⟩)]];exact this.cell 0
  ·obtain ⟨b,off,y,vs,rfl,hbl,hy,hl,hRy,hc⟩:=hS.get hj
   refine ⟨b,off,vs,rfl,hl,fun W' hW'=>?_⟩;obtain ⟨⟨ys,hys,hJy⟩,hk'⟩:=hW';have hkk:=hk3.trans hk';obtain ⟨b',off',e',hFb⟩:=hA (by omega);injection e' with e'
   injection e' with e1 e2
   subst e1 e2;have hFF:=hF b hFb;refine ⟨fun i v hi=>hkk.cell hb hFF.1 hFF.2.2 (hc i v hi),?_⟩;have hRy':=hkk.rx hb hF hRy;have hwW':=(hk' hw3).1;have hyl:=zrq (Yk hy);have htk:(Xn.flats (x.l.take j)).length+y.flat.length<=(Xn.flats x.l).length:=by
    have h1:(Xn.flats (x.l.take (j+1)++x.l.drop (j+1))).length=(Xn.flats x.l).length:=by rw [List.take_append_drop]
    rw [zqk,Yu,zqi hy,Yu] at h1;omega
   have hyn:ys.length=(Xn.flats (x.l.take j)).length:=by have:=congrArg List.length hys;simpa using this
   have cM':W'.cell? ⟨W.heap.size+1,0,none⟩=some (.func (.yield l) #[] #[]):=by
    exact hk'.cell hw3 (by have:=hb.1;omega) hnn cM
   obtain ⟨A1,m1,c1,d1,e1,rfl,hS1,hA1⟩:=hRy'.open;refine (zKj (W.heap.size+1) l ⟨y.k,y.a,y.b,y.s,y.n,A1,m1,c1⟩ W' cM' (WX b3 J Jx (pre++[⟨x.k,x.a,x.b,x.s,x.n,some ⟨b,off,none⟩,m,c⟩]++ys) y.flat W') ?_).mono ?_
   ·have hka:Kp b3 W' (W'.alloc (.cells #[.int .i64 y.k,.int .i64 y.a,.int .i64 y.b,.string y.s,.int .i64 y.n,.slice A1 m1 c1] 82)):=(Kp.refl _ _).alloc _
    refine (ih F _ y _ _ (hka.rx hwW' (fun b hb'=>⟨(hF b hb').1,Yh (hF b hb').2.1 ((hkk hb).2.1),hkk.unnamed hb (hF b hb').2.1 (hF b hb').2.2⟩) hRy') (fun b hb'=>⟨(hF b hb').1,Yh (hF b hb').2.1 (Yq (hkk hb).2.1 (hka hwW').2.1),hka.unnamed hwW' (Yh (hF b hb').2.1 (hkk hb).2.1) (hkk.unnamed hb (hF b hb').2.1 (hF b hb').2.2)⟩) (hJa _ _ _ hJy) (by simp;omega) (hka hwW').1).mono ?_;exact fun e w' h=>h.mono fun t w'' h=>h.from hka
   ·rintro e W'' ⟨t,rfl,h⟩
    refine ⟨t,rfl,?_⟩;rcases h with ⟨rfl,⟨zs,hz,hJz⟩,hkz⟩ | ⟨rfl,q,hq⟩
    ·rw [if_pos rfl]
     exact ⟨⟨⟨ys++zs,by rw [List.map_append,hys,hz,zqi hy,List.map_append],by simpa using hJz⟩,hk'.trans hkz⟩,hkz⟩
    ·rw [if_neg (by simp)]
     exact ⟨ys++q,by simpa using hq⟩
  ·rintro e W4 ⟨t,rfl,h⟩
   refine ⟨t,rfl,?_⟩;cases t
   ·obtain ⟨q,hq⟩:=(by simpa using h:∃q,Jx (pre++[⟨x.k,x.a,x.b,x.s,x.n,A,m,c⟩]++q) W4)
    exact .inr ⟨rfl,q,hq⟩
   ·rw [if_pos rfl] at h
    obtain ⟨⟨⟨ys,hys,hJy⟩,hk'⟩,_⟩:=h;rw [Xd (by rw [hS.len];omega)] at hys;exact .inl ⟨rfl,⟨ys,hys,hJy⟩,hk'⟩
theorem zrS {a b:ByteArray}(h:(a.toList == b.toList)=true):a=b:=by
 have h':a.toList=b.toList:=by simpa using h
 rw [Lib.toList_data,Lib.toList_data] at h';cases a;cases b
 simpa using h'
theorem zrn {a b:ByteArray}(h:(a.toList == b.toList)=false):b≠a:=by
 rintro rfl
 simp at h
theorem zs3 (A:Option Addr) (n c:Nat) (xs:List ByteArray) (s:ByteArray) (w:World) (h:Sl 1 zql w A n c xs) :
  Calls Tryz.prog 212 #[.slice A n c,.string s] w fun e w'=>∃i:Int,e=.returned (.int .i64 i)/\(0<=i ↔ s∈xs)/\w' = w:=by
 have hn:=h.cap;have hm:=h.max;have HL:=Zh h.len;have HS:=Zh h;clear h;go_enter Tryz.func212,Tryz.ntmps212
 go_wp2_with fail
 go_loopw [8] (fun i wr=>∃j:Nat,j<=n/\i=.int .i64 j/\Hid (∀m x,m<j->xs[m]? = some x->x≠s)/\wr=w) (fun i _=>n - (intOf i).toNat)
 case atStart=>exact ⟨0,Nat.zero_le _,rfl,fun m x hm=>absurd hm (by omega),rfl⟩
 case round=>
  obtain ⟨j,hj,rfl,HZ,rfl⟩:=hrel;by_cases hlt:j<n
  ·obtain ⟨b,off,x,vs,rfl,hbl,hx,hk,hR,hc⟩:=HS.out.get hlt
   unfold zql at hR;subst hR;have q0:=hc 0 _ rfl;rw [Nat.mul_one,Nat.add_zero] at q0;have HX:=Zh hx;clear hx hc hk HS;go_wp2_with fail
   ·have he:=zrS (by assumption)
    go_ret;exact ⟨j,rfl,⟨fun _=>Yk (by rw [he];exact HX.out),fun _=>by omega⟩,rfl⟩
   ·have he:=zrn (by assumption)
    refine ⟨⟨j+1,by omega,by go_num,fun m y hm hy=>?_,trivial⟩,by simp [intOf];omega⟩;by_cases hmj:m<j
    ·exact HZ.out m y hmj hy
    ·obtain rfl:m=j:=by omega
     rw [HX.out] at hy;injection hy with hy
     rw [<- hy];exact he
  ·go_wp2_with fail
   go_ret;refine ⟨-1,rfl,⟨fun h=>by omega,fun h=>?_⟩,rfl⟩;obtain ⟨m,hm1⟩:=List.mem_iff_getElem?.1 h;exact absurd rfl (HZ.out m s (by
    have:=(Yb.1 hm1).1;have:=HL.out;omega) hm1)
theorem zqd (A:Option Addr) (n c:Nat) (xs:List ByteArray) (s:ByteArray) (w:World) (h:Sl 1 zql w A n c xs) :
  Calls Tryz.prog 147 #[.slice A n c,.string s] w fun e w'=>∃t,e=.returned (.bool t)/\(t=true ↔ s∈xs)/\w' = w:=by
 have HC:=Zh (zs3 A n c xs s w h);clear h;go_enter Tryz.func147,Tryz.ntmps147
 go_wp2_with fail
 refine HC.out.mono ?_;rintro e w' ⟨i,rfl,hi,hw'⟩
 obtain rfl:=hw'.symm;go_wp2_with fail
 go_ret;exact ⟨_,rfl,by rw [<- hi];simp,rfl⟩
open Go.Sort
def zrO (w:World) (g:Nat) (ss:List ByteArray):Prop:=∀ (j:Nat) (s:ByteArray),ss[j]? = some s->w.cell? ⟨g,j,none⟩=some (.string s)/\w.frozen? ⟨g,j,none⟩=false
def bl (s:ByteArray):List UInt8:=s.data.toList
def lb (l:List UInt8):ByteArray:=⟨l.toArray⟩
theorem zs6 (s:ByteArray):lb (bl s)=s:=by cases s;simp [bl,lb]
theorem zrT {w:World}{g:Nat}{ss:List ByteArray}(h:zrO w g ss):Holds encStr w g 0 (ss.map bl).toArray:=fun j hj=>by
 have hj':j<ss.length:=by simpa using hj
 obtain ⟨h1,h2⟩:=h j _ (Yo hj');rw [Nat.zero_add];refine ⟨?_,h2⟩;rw [h1,getElem!_pos _ j hj];have e:(ss.map bl).toArray[j]=bl ss[j]:=by simp
 rw [e]
 show some (Value.string ss[j])=some (Value.string (lb (bl ss[j])))
 rw [zs6]
theorem zsn {w:World}{g:Nat}{ls:List (List UInt8)}(h:Holds encStr w g 0 ls.toArray):zrO w g (ls.map lb):=fun j s hj=>by
 have hj':j<ls.length:=by have:=(Yb.1 hj).1;simpa using this
 have hk:=h j (by simpa using hj');rw [Nat.zero_add] at hk;refine ⟨?_,hk.2⟩;have e:(ls.map lb)[j]? = some (lb ls[j]):=by rw [List.getElem?_map,Yo hj'];rfl
 rw [hj] at e;injection e with e
 have e2:ls.toArray[j]! = ls[j]:=by rw [getElem!_pos _ j (by simpa using hj')];simp
 rw [hk.1,e2,e];rfl
theorem zuE {w:World}{g n:Nat}{ls:List (List UInt8)}:KX g w (putRow encStr (Sort.ahead w n) g 0 ls.toArray):=
 ⟨rfl,rfl,rfl,by simp [Sort.ahead],fun b hb hne=>by
  simp only [putRow,mapBlock,Array.getElem?_modify];rw [if_neg (fun e=>hne e.symm)];rfl⟩
theorem zsU (zs:List (List UInt8)) (x:List UInt8):x∈Lib.compact zs ↔ x∈zs:=by
 have hz:∀j,j<zs.length->zs.toArray[j]! = zs[j]!:=fun j hj=>by rw [getElem!_pos _ j (by simpa using hj),getElem!_pos zs j hj];simp
 unfold Lib.compact Lib.compactUpTo;simp only [List.mem_map,List.mem_filter,List.mem_range];constructor
 ·rintro ⟨j,⟨hj,_⟩,rfl⟩
  rw [hz j hj,getElem!_pos zs j hj];exact List.getElem_mem hj
 ·intro hx
  obtain ⟨i,hi,e⟩:=List.mem_iff_getElem.1 hx;subst e;have key:∀i,i<zs.length->∃j,(j<zs.length/\Lib.keeps zs.toArray j=true)/\zs.toArray[j]! = zs.toArray[i]!:=by
   intro i
   induction i with
   | zero=>intro hi;exact ⟨0,⟨hi,by simp [Lib.keeps]⟩,rfl⟩
   | succ i ih=>
    intro hi;by_cases he:zs.toArray[i+1]! = zs.toArray[i+1 - 1]!
    ·obtain ⟨j,h1,h2⟩:=ih (by omega)
     exact ⟨j,h1,h2.trans he.symm⟩
    ·exact ⟨i+1,⟨hi,Lib.keeps_pos he⟩,rfl⟩
  obtain ⟨j,h1,h2⟩:=key i hi;refine ⟨j,h1,?_⟩;rw [h2,hz i hi,getElem!_pos zs i hi]
theorem zrv (g n c:Nat) (ss:List ByteArray) (w:World) (h:zrO w g ss) (hl:ss.length=n) (hn:n<=1000) (hc:n<=c) :
  Calls Tryz.prog 225 #[.slice (some ⟨g,0,none⟩) n c] w fun e w'=>∃ts:List ByteArray,e=.returned (.slice (some ⟨g,0,none⟩) ts.length c)/\ts.length<=n/\(∀s,s∈ts ↔ s∈ss)/\zrO w' g ts/\KX g w w'/\(∀s,ss=[s]->ts=[s]):=by
 have hk:=Tryz.slices_Compact_string g 0 c (ss.map bl) w (zrT h) (by simp;omega) (by simp;omega);rw [Xe,hl] at hk;refine hk.mono ?_;rintro e w' ⟨rfl,q,rfl⟩
 have hle:(Lib.compact (ss.map bl)).length<=n:=by
  unfold Lib.compact Lib.compactUpTo;rw [Xe];refine Yq (List.length_filter_le _ _) ?_;simp;omega
 have hk0:zrO (putRow encStr (Sort.ahead w q) g 0 (Lib.compact (ss.map bl)++List.replicate (n - (Lib.compact (ss.map bl)).length) []).toArray) g ((Lib.compact (ss.map bl)++List.replicate (n - (Lib.compact (ss.map bl)).length) []).map lb):=
  zsn (holds_putRow _ _ _ _ _ _ (zrT (w:=Sort.ahead w q) h) (by simp only [List.size_toArray,Yu,List.length_replicate,Xe];omega))
 have hkx:KX g w (putRow encStr (Sort.ahead w q) g 0 (Lib.compact (ss.map bl)++List.replicate (n - (Lib.compact (ss.map bl)).length) []).toArray):=zuE;refine ⟨(Lib.compact (ss.map bl)).map lb,by rw [Xe],by rw [Xe];exact hle,fun s=>?_,fun j s hj=>hk0 j s ?_,hkx,?_⟩
 ·simp only [List.mem_map,zsU]
  constructor
  ·rintro ⟨l,⟨s',hs',rfl⟩,rfl⟩
   rw [zs6];exact hs'
  ·intro hs
   exact ⟨bl s,⟨s,hs,rfl⟩,zs6 s⟩
 ·have hjl:=(Yb.1 hj).1
  rw [List.map_append,Yw hjl];exact hj
 ·rintro s rfl
  have:Lib.compact ([s].map bl)=[bl s]:=by
   unfold Lib.compact Lib.compactUpTo;simp [Lib.keeps,List.range_succ]
  rw [this]
  show [lb (bl s)]=[s]
  rw [zs6]
end Go.Proofs.YtngjhigieajkmaaGreatDoor
end
