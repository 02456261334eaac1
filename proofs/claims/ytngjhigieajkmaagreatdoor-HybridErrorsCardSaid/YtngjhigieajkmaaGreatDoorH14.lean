/- Bundle 14: what the law's walk stands on: U10, U12, U13, U14, U16, U17, U11, U18, U19, U20, U22, U23, S0. -/
import Derived.Deep.QuietTactic
import Derived.BigQuiet
import Derived.Maps.OwnIn
import Derived.Test.YtngjhigieajkmaaGreatDoorH8
import Derived.Test.YtngjhigieajkmaaGreatDoorH12
import Derived.Test.YtngjhigieajkmaaGreatDoorH13
set_option maxRecDepth 100000
set_option maxHeartbeats 20000000
set_option linter.all false
noncomputable section
namespace Go.Proofs.YtngjhigieajkmaaGreatDoor
open Go.RowKit Pl Go.Sort
theorem zud {g:Nat}{w w':World}(h:KX g w w') (os:Array Obj):KX g w (grow w' os):=
 ⟨h.os,h.tape,h.output,by have:=h.size;simp [grow];omega,fun b hb hne=>(heap_grow_old _ _ (Yh hb h.size)).trans (h.block b hb hne)⟩
theorem ztV (g n c:Nat) (ss:List ByteArray) (w:World) (h:zrO w g ss) (hl:ss.length=n) (hg:g<w.heap.size) (hn:n<=1000) :
  Calls Tryz.prog 224 #[.slice (some ⟨g,0,none⟩) n c] w fun e w'=>e=.returned (.tuple #[])/\KX g w w'/\∃ts:List ByteArray,ts.length=n/\(∀s,s∈ts ↔ s∈ss)/\zrO w' g ts:=by
 have hk:=Tryz.slices_Sort_string g 0 c (ss.map bl) w (zrT h) hg (by simp;omega);rw [Xe,hl] at hk;refine hk.mono ?_;rintro e w' ⟨rfl,m,os,rfl⟩
 have hlen:((ss.map bl).mergeSort fun x y=>decide (x<=y)).length=n:=by rw [List.length_mergeSort,Xe,hl]
 refine ⟨rfl,zud zuE os,((ss.map bl).mergeSort fun x y=>decide (x<=y)).map lb,by rw [Xe,hlen],fun s=>?_,
  zsn (holds_grow _ _ _ _ _ _ (by simpa [Sort.ahead] using hg) (holds_putRow _ _ _ _ _ _ (zrT (w:=Sort.ahead w m) h) (by simp only [List.size_toArray,Xe];omega)))⟩
 simp only [List.mem_map,List.mem_mergeSort];constructor
 ·rintro ⟨l,⟨s',hs',rfl⟩,rfl⟩
  rw [zs6];exact hs'
 ·intro hs
  exact ⟨bl s,⟨s,hs,rfl⟩,zs6 s⟩
theorem ztn (w:World):Calls Tryz.prog 338 #[.slice none 0 0,.int .i64 0,.int .i64 0] w fun e w'=>e=.returned (.tuple #[])/\w' = w:=by
 go_enter Tryz.func338,Tryz.ntmps338
 go_wp2_with fail
 go_loopw [6] (fun i wr=>i=.int .i64 1/\wr=w) (fun _ _=>0)
 case atStart=>exact ⟨rfl,rfl⟩
 case round=>
  obtain ⟨rfl,hw⟩:=hrel;obtain rfl:=hw.symm;go_wp2_with fail
  go_end0
  exact ⟨rfl,rfl⟩
theorem ztx (w:World) (l:Int):Calls Tryz.prog 296 #[.slice none 0 0,.int .i64 0,.int .i64 0,.int .i64 l] w fun e w'=>e=.returned (.tuple #[])/\w' = w:=by
 have HI:=Zh ztn;go_enter Tryz.func296,Tryz.ntmps296
 go_wp2_with fail
 go_loopw [1,2] (fun a b wr=>a=.int .i64 0/\b=.int .i64 0/\wr=w) (fun _ _ _=>0)
 case atStart=>exact ⟨rfl,rfl,rfl⟩
 case round=>
  obtain ⟨rfl,rfl,hw⟩:=hrel;obtain rfl:=hw.symm
  go_wp2_with (go_at_call 338;refine (HI.out _).mono ?_;rintro e w' ⟨rfl,hw'⟩;obtain rfl:=hw'.symm)
  (try simp only [Exit.inBlock,Exit.then])
  refine Yn (results_none rfl _ _ _) rfl ?_;exact ⟨rfl,rfl⟩
theorem ztW (w:World):Calls Tryz.prog 224 #[.slice none 0 0] w fun e w'=>e=.returned (.tuple #[])/\Below w.heap.size w w':=by
 have HP:=Zh ztx;go_enter Tryz.func224,Tryz.ntmps224
 go_wp2_with (first
  | (go_at_call 297;refine (Tryz.bits_Len 0 _ (by omega) (by omega)).mono ?_;rintro e w' ⟨rfl,hw'⟩;obtain rfl:=hw'.symm)
  | (go_at_call 296;refine (HP.out _ _).mono ?_;rintro e w' ⟨rfl,hw'⟩;obtain rfl:=hw'.symm))
 go_end0
 exact ⟨rfl,Yp _ _⟩
theorem zsG (n:Int) (h:-1073741824<=n/\n<=1073741824) (w:World):Calls Tryz.prog 89 #[.int .i64 n] w fun e w'=>e=.returned (.int .u64 (n.natAbs:Int))/\w' = w:=by
 go_enter Tryz.func89,Tryz.ntmps89
 go_wp2_with fail
 ·go_ret
  exact ⟨by rw [show (n.natAbs:Int) = -n by omega];rfl,rfl⟩
 ·go_ret
  exact ⟨by rw [show (n.natAbs:Int)=n by omega];rfl,rfl⟩
theorem zua (a b:Nat) (ha:a<9223372036854775808) (hb:b<9223372036854775808) (w:World):Calls Tryz.prog 133 #[.int .u64 (a:Int),.int .u64 (b:Int)] w fun e w'=>e=.returned (.int .u64 (Nat.gcd a b:Nat))/\∃m,w' = w.drewN m:=by
 go_enter Tryz.func133,Tryz.ntmps133
 go_wp2_with fail
 go_loopw [0,1] (fun va vb wr=>∃x y:Nat,va=.int .u64 (x:Int)/\vb=.int .u64 (y:Int)/\Hid (Nat.gcd x y=Nat.gcd a b)/\x<9223372036854775808/\y<9223372036854775808/\∃m,wr=w.drewN m) (fun va vb _=>(intOf vb).toNat)
 case atStart=>exact ⟨a,b,rfl,rfl,rfl,ha,hb,0,rfl⟩
 case round=>
  obtain ⟨x,y,rfl,rfl,hg,hx,hy,m,rfl⟩:=hrel;by_cases h0:y=0
  ·subst h0
   go_wp2_with fail
   go_ret;refine ⟨?_,m,rfl⟩;have:=hg.out;rw [Nat.gcd_zero_right] at this;rw [<- this];rfl
  ·have hne:((y:Int) == 0)=false:=by simpa using h0
   go_wp2_with fail
   go_quiet (fail)
   go_wp2_with fail
   refine ⟨⟨y,x%y,rfl,by rw [Int.natCast_emod],?_,hy,Nat.lt_of_le_of_lt (Nat.mod_le _ _) hx,m+nq,by rw [World.drewN_drewN]⟩,?_⟩
   ·rw [Hid,Nat.gcd_comm,<- Nat.gcd_rec,Nat.gcd_comm]
    exact hg.out
   ·have:=Nat.mod_lt x (Nat.pos_of_ne_zero h0)
    simp only [intOf];rw [<- Int.natCast_emod,Int.toNat_natCast,Int.toNat_natCast];exact this
theorem zrM {a b:Int}(h:zrA a b=true):1<=b/\b<=1073741824/\-1073741824<=a/\a<=1073741824/\Nat.gcd a.natAbs b.natAbs=1:=by
 unfold zrA at h;simp only [Yi,Xa] at h;exact ⟨h.1.1.1.1,h.1.1.1.2,h.1.1.2,h.1.2,h.2⟩
theorem zqj (a b:Int) (h:zrA a b=true) (w:World):Calls Tryz.prog 67 #[.agg #[.int .i64 a,.int .i64 b]] w (zBW true w):=by
 obtain ⟨h1,h2,h3,h4,h5⟩:=zrM h;have d1:decide ((1:Int)<=b)=true:=Yf h1;have d2:decide (b<=(1073741824:Int))=true:=Yf h2;have d3:decide ((-1073741824:Int)<=a)=true:=Yf h3;have d4:decide (a<=(1073741824:Int))=true:=Yf h4;obtain ⟨x,hx⟩:∃x:Nat,x=a.natAbs:=⟨_,rfl⟩;obtain ⟨y,hy⟩:∃y:Nat,y=b.natAbs:=⟨_,rfl⟩;have HG:Hid (∀ (W:World) (n:Nat),Calls Tryz.prog 133 #[.int .u64 (x:Int),.int .u64 (y:Int)] (W.drewN n) fun e w''=>e=.returned (.int .u64 1)/\∃m,w'' = W.drewN m):=fun W n=>by
  have:=zua x y (by omega) (by omega) (W.drewN n);rw [hx,hy,h5] at this;rw [hx,hy];exact Calls.quiet_of this
 have HA:Hid (∀ (W:World) (n:Nat),Calls Tryz.prog 89 #[.int .i64 a] (W.drewN n) fun e w''=>e=.returned (.int .u64 (x:Int))/\∃m,w'' = W.drewN m):=fun W n=>by rw [hx];exact Calls.quiet_of_same (zsG a ⟨h3,h4⟩ (W.drewN n))
 have HB:Hid (∀ (W:World) (n:Nat),Calls Tryz.prog 89 #[.int .i64 b] (W.drewN n) fun e w''=>e=.returned (.int .u64 (y:Int))/\∃m,w'' = W.drewN m):=fun W n=>by rw [hy];exact Calls.quiet_of_same (zsG b ⟨by omega,h2⟩ (W.drewN n))
 have hb0:=zAE w (.cells #[.int .i64 a,.int .i64 b] 25);have k0:=Blk.new w 25 #[.int .i64 a,.int .i64 b];have q0:(w.alloc (.cells #[.int .i64 a,.int .i64 b] 25)).cell? ⟨w.heap.size,0,none⟩=some (.int .i64 a):=k0.cell 0;have q1:(w.alloc (.cells #[.int .i64 a,.int .i64 b] 25)).cell? ⟨w.heap.size,1,none⟩=some (.int .i64 b):=k0.cell 1;clear h h5 k0 hx hy h1 h2 h3 h4;go_enter Tryz.func67,Tryz.ntmps67
 go_wp2_with fail
 generalize w.alloc (.cells #[.int .i64 a,.int .i64 b] 25)=W0 at *
 go_big_quiet (first
  | (go_at_call 89;exact HA.out _ _)
  | (go_at_call 89;exact HB.out _ _)
  | (go_at_call 133;exact HG.out _ _))
 go_wp2_with fail
 go_ret;exact ⟨rfl,zAR hb0 _⟩
theorem zrV {k:Int}{m:Nat}(h:(m:Int)=zrD k):1<=k/\k<=13:=by
 unfold zrD at h
 split at h
 ·omega
 ·split at h
  ·omega
  ·split at h
   ·omega
   ·omega
theorem ztw {x:Xn}(h:zre x=true):(x.l.length:Int)=zrD x.k/\(x.k=1->zrA x.a x.b=true)/\(x.k≠1->x.a=0/\x.b=0)/\(x.k=2->zqn x.s=true)/\(x.k≠2->x.s=⟨#[]⟩)/\(x.n=0\/(x.k=8/\0<x.n/\x.n<=16)):=by
 unfold zre at h;rw [Yi,Yi,Yi] at h;obtain ⟨⟨⟨h1,h2⟩,h3⟩,h4⟩:=h;refine ⟨of_decide_eq_true h1,fun e=>?_,fun e=>?_,fun e=>?_,fun e=>?_,?_⟩
 ·rwa [if_pos e] at h2
 ·rw [if_neg e,Yi] at h2
  exact ⟨of_decide_eq_true h2.1,of_decide_eq_true h2.2⟩
 ·rwa [if_pos e] at h3
 ·rw [if_neg e] at h3
  exact of_decide_eq_true h3
 ·rw [Bool.or_eq_true,Yi,Yi] at h4
  rcases h4 with h4 | h4
  ·exact .inl (of_decide_eq_true h4)
  ·exact .inr ⟨of_decide_eq_true h4.1.1,of_decide_eq_true h4.1.2,of_decide_eq_true h4.2⟩
theorem ztS (F:Nat->Prop) (d:Nat) (us:List Value) (x:Xn) (w:World) (h:RX F d w us x) (hx:zre x=true):Calls Tryz.prog 290 #[.agg us.toArray] w (zBW true w):=by
 obtain ⟨A,m,c,d',rfl,rfl,hS,-⟩:=h.open;have hm:=hS.cap;have hm2:=hS.max;obtain ⟨h1,h2,h2',h3,h3',h4⟩:=ztw hx;rw [hS.len] at h1;clear hS h hx;generalize x.k=k at *;generalize x.a=a at *;generalize x.b=b at *;generalize x.s=s at *;generalize x.n=n at *;have hr:=zrV h1;by_cases k1:k=1
 ·subst k1
  have h3':=h3' (by omega);have h2:=h2 rfl;have hm0:m=0:=by simp [zrD] at h1;omega
  have hn0:n=0:=by omega
  subst h3' hm0 hn0;have HV:=Zh (zqj a b h2);have hb0:=zAE w (.cells #[.int .i64 1,.int .i64 a,.int .i64 b,.string ⟨#[]⟩,.int .i64 0,.slice A 0 c] 82);have k0:=Blk.new w 82 #[.int .i64 1,.int .i64 a,.int .i64 b,.string ⟨#[]⟩,.int .i64 0,.slice A 0 c];have hbb:b≠0:=by have:=(zrM h2).1;omega
  have e2:(b == 0)=false:=by simpa using hbb
  clear h1 h2 h2' h3 h3' h4 hr;by_cases ha:a=0
  ·subst ha
   obtain ⟨q0,q1,q2,q3,q4,q5⟩:=zqv k0;go_enter Tryz.func290,Tryz.ntmps290
   go_wp2_with fail
   generalize w.alloc (.cells #[.int .i64 1,.int .i64 0,.int .i64 b,.string ⟨#[]⟩,.int .i64 0,.slice A 0 c] 82)=W0 at *;refine (HV.out _).mono ?_;rintro e w1 ⟨rfl,hb1⟩
   clear q0 q1 q2 q3 q4 q5;obtain ⟨q0,q1,q2,q3,q4,q5⟩:=zqv (k0.below hb1 k0.lt);have HB:=Zh (zAA hb0 hb1);go_wp2_with fail
   go_ret;exact ⟨rfl,HB.out⟩
  ·have e1:(a == 0)=false:=by simpa using ha
   obtain ⟨q0,q1,q2,q3,q4,q5⟩:=zqv k0;go_enter Tryz.func290,Tryz.ntmps290
   go_wp2_with fail
   generalize w.alloc (.cells #[.int .i64 1,.int .i64 a,.int .i64 b,.string ⟨#[]⟩,.int .i64 0,.slice A 0 c] 82)=W0 at *;refine (HV.out _).mono ?_;rintro e w1 ⟨rfl,hb1⟩
   clear q0 q1 q2 q3 q4 q5;obtain ⟨q0,q1,q2,q3,q4,q5⟩:=zqv (k0.below hb1 k0.lt);have HB:=Zh (zAA hb0 hb1);go_wp2_with fail
   go_ret;exact ⟨rfl,HB.out⟩
 obtain ⟨ha,hb⟩:=h2' k1;subst ha hb;by_cases k2:k=2
 ·subst k2
  have h3:=h3 rfl;have hm0:m=0:=by simp [zrD] at h1;omega
  have hn0:n=0:=by omega
  subst hm0 hn0;have HN:=Zh (zsA s h3);have hb0:=zAE w (.cells #[.int .i64 2,.int .i64 0,.int .i64 0,.string s,.int .i64 0,.slice A 0 c] 82);have k0:=Blk.new w 82 #[.int .i64 2,.int .i64 0,.int .i64 0,.string s,.int .i64 0,.slice A 0 c];clear h1 h2 h2' h3 h3' h4 hr k1;obtain ⟨q0,q1,q2,q3,q4,q5⟩:=zqv k0;go_enter Tryz.func290,Tryz.ntmps290
  go_wp2_with (go_at_call 203;refine (HN.out _).mono ?_;rintro e w' ⟨rfl,hw'⟩;obtain rfl:=hw'.symm)
  go_ret;exact ⟨rfl,hb0⟩
 have hs:=h3' k2;subst hs;by_cases k8:k=8
 ·subst k8
  have hm0:m=1:=by simp [zrD] at h1;omega
  subst hm0;have hn:0<=n/\n<=16:=by omega
  have hb0:=zAE w (.cells #[.int .i64 8,.int .i64 0,.int .i64 0,.string ⟨#[]⟩,.int .i64 n,.slice A 1 c] 82);have k0:=Blk.new w 82 #[.int .i64 8,.int .i64 0,.int .i64 0,.string ⟨#[]⟩,.int .i64 n,.slice A 1 c];clear h1 h2 h2' h3 h3' h4 hr k1 k2;obtain ⟨q0,q1,q2,q3,q4,q5⟩:=zqv k0;go_enter Tryz.func290,Tryz.ntmps290
  go_wp2_with fail
  all_goals (first | omega | (go_ret;exact ⟨rfl,hb0⟩))
 ·have hn0:n=0:=by omega
  subst hn0;have h13:3<=k/\k<=13:=by omega
  have e1:(k == 1)=false:=by simpa using k1
  have e2:(k == 2)=false:=by simpa using k2
  have e8:(k == 8)=false:=by simpa using k8
  have HO:Hid (∀ (W:World) (n:Nat),Calls Tryz.prog 333 #[.int .i64 k] (W.drewN n) fun e w''=>e=.returned (.int .i64 (m:Int))/\∃z,w'' = W.drewN z):=fun W n=>by
   rw [h1];exact Calls.quiet_of_same (zsC k h13 (W.drewN n))
  have hb0:=zAE w (.cells #[.int .i64 k,.int .i64 0,.int .i64 0,.string ⟨#[]⟩,.int .i64 0,.slice A m c] 82);have k0:=Blk.new w 82 #[.int .i64 k,.int .i64 0,.int .i64 0,.string ⟨#[]⟩,.int .i64 0,.slice A m c];clear h1 h2 h2' h3 h3' h4 hr k1 k2 k8 h13;obtain ⟨q0,q1,q2,q3,q4,q5⟩:=zqv k0;go_enter Tryz.func290,Tryz.ntmps290
  go_wp2_with fail
  generalize w.alloc (.cells #[.int .i64 k,.int .i64 0,.int .i64 0,.string ⟨#[]⟩,.int .i64 0,.slice A m c] 82)=W0 at *
  go_big_quiet (first | (go_at_call 333;exact HO.out _ _))
  go_wp2_with fail
  go_ret;exact ⟨rfl,zAR hb0 _⟩
theorem zro (b1 b2 p:Nat) (dep:Int) (v0 v1 v2 v3 v4 v5:Value) (W:World) (h1:W.cell? ⟨b1,0,none⟩=some (.int .i64 dep)) (h2:W.cell? ⟨b2,0,none⟩=some (.pointer (some ⟨p,0,none⟩))) (hd:0<=dep/\dep<=100) (R:World->Prop)
  (hp:Calls Tryz.prog 221 #[.agg #[v0,v1,v2,v3,v4,v5],.int .i64 (dep+1),.pointer (some ⟨p,0,none⟩)] (W.alloc (.cells #[v0,v1,v2,v3,v4,v5] 82)) fun e W'=>e=.returned (.bool true)/\R W') :
  Calls Tryz.prog 292 #[.agg #[v0,v1,v2,v3,v4,v5],.pointer (some ⟨b1,0,none⟩),.pointer (some ⟨b2,0,none⟩)] W fun e W'=>e=.returned (.bool false)/\R W':=by
 have l1:=World.block_lt_of_cell? W ⟨b1,0,none⟩ h1;have l2:=World.block_lt_of_cell? W ⟨b2,0,none⟩ h2;have hb0:=zAE W (.cells #[v0,v1,v2,v3,v4,v5] 82);have r1:=(hb0.cell (p:=⟨b1,0,none⟩) l1).trans h1;have r2:=(hb0.cell (p:=⟨b2,0,none⟩) l2).trans h2;obtain ⟨q0,q1,q2,q3,q4,q5⟩:=zqv (Blk.new W 82 #[v0,v1,v2,v3,v4,v5]);have HP:=Zh hp;clear hp h1 h2 hb0;go_enter Tryz.func292,Tryz.ntmps292
 go_wp2_with fail
 refine HP.out.mono ?_;rintro e w' ⟨rfl,hR⟩
 go_wp2_with fail
 go_ret;exact ⟨rfl,hR⟩
theorem zsy:∀ (l d:Nat) (F:Nat->Prop) (us:List Value) (x:Xn) (dep:Int) (p n0:Nat) (w:World),RX F d w us x->OkX l x->1<=dep->dep+l=21->n0+x.flat.length<=200->Blk w p 3 #[.int .i64 (n0:Int)]->(∀b,F b->b≠p)->
  Calls Tryz.prog 221 #[.agg us.toArray,.int .i64 dep,.pointer (some ⟨p,0,none⟩)] w fun e W'=>e=.returned (.bool true)/\KX p w W'/\Blk W' p 3 #[.int .i64 ((n0+x.flat.length:Nat):Int)]:=by
 intro l
 induction l with
 | zero=>intro d F us x dep p n0 w _ h;exact h.elim
 | succ l ih=>
  intro d F us x dep p n0 w hx hok h1 hdl hsz hp hF;obtain ⟨hnode,hkids⟩:=hok;have HX:=Zh hx;obtain ⟨A,m,c,d',rfl,rfl,hS,hA⟩:=hx.open;obtain ⟨W0,e0,hb0,k0,k1,k2⟩:=al3 w #[.int .i64 x.k,.int .i64 x.a,.int .i64 x.b,.string x.s,.int .i64 x.n,.slice A m c] 82 #[.int .i64 dep] 3 #[.pointer (some ⟨p,0,none⟩)] 303;have hplt:=hp.lt;have hp0:=hp.below hb0 hplt;have hfl:x.flat.length=1+(Xn.flats x.l).length:=by rw [Xn.flat_eq,List.length_cons];omega
  have hm:=hS.cap;have hm2:=hS.max;have hj0:=k0.far (p:=⟨p,0,none⟩) (show w.heap.size≠p by omega) (.int .i64 ((n0:Int)+1));have hj1:=k1.far (p:=⟨p,0,none⟩) (show w.heap.size+1≠p by omega) (.int .i64 ((n0:Int)+1));have hj2:=k2.far (p:=⟨p,0,none⟩) (show w.heap.size+1+1≠p by omega) (.int .i64 ((n0:Int)+1));have hjp:Blk (W0.setCell ⟨p,0,none⟩ (.int .i64 ((n0:Int)+1))) p 3 #[.int .i64 ((n0:Int)+1)]:=hp0.set_ 0 (.int .i64 ((n0:Int)+1));have hkx:KX p w (W0.setCell ⟨p,0,none⟩ (.int .i64 ((n0:Int)+1))):=(KX.of hb0).trans (KX.set 0 _);have HN:=Zh (ztS F _ _ x _ (hkx.rx hF hx) hnode);have HK:=Zh hkx;have J0:=Zh hj0;have J1:=Zh hj1;have J2:=Zh hj2;have JP:=Zh hjp;have p0:W0.cell? ⟨p,0,none⟩=some (.int .i64 (n0:Int)):=hp0.cell 0;have fp:=hp0.frozen 0;have c2:W0.cell? ⟨w.heap.size+1+1,0,none⟩=some (.pointer (some ⟨p,0,none⟩)):=k2.cell 0;obtain ⟨q0,q1,q2,q3,q4,q5⟩:=zqv hj0;have d1:(W0.setCell ⟨p,0,none⟩ (.int .i64 ((n0:Int)+1))).cell? ⟨w.heap.size+1,0,none⟩=some (.int .i64 dep):=hj1.cell 0;have d2:(W0.setCell ⟨p,0,none⟩ (.int .i64 ((n0:Int)+1))).cell? ⟨w.heap.size+1+1,0,none⟩=some (.pointer (some ⟨p,0,none⟩)):=hj2.cell 0;have dp:(W0.setCell ⟨p,0,none⟩ (.int .i64 ((n0:Int)+1))).cell? ⟨p,0,none⟩=some (.int .i64 ((n0:Int)+1)):=hjp.cell 0;have HS:=Zh hS;have HIH:=Zh ih;have HKI:=Zh hkids;have HF:=Zh hF;have HA:=Zh hA;clear hx hnode hkids ih hS hp hF hA hb0 k0 k1 k2 hp0 hj0 hj1 hj2 hjp hkx HX;go_enter Tryz.func221,Tryz.ntmps221
  go_wp2_with fail
  clear q0 q1 q2 q3 q4 q5 e0 p0 fp c2 d1 d2 dp;refine HN.out.mono ?_;rintro e w2 ⟨rfl,hb2⟩
  have hk2:=HK.out.trans (KX.of hb2);have hs2:=hk2.size;have m1:=J1.out.below hb2 J1.out.lt;have m2:=J2.out.below hb2 J2.out.lt;have mp:=JP.out.below hb2 JP.out.lt;obtain ⟨q0,q1,q2,q3,q4,q5⟩:=zqv (J0.out.below hb2 J0.out.lt);have HK2:=Zh hk2;have M1:=Zh m1;have M2:=Zh m2;have MP:=Zh mp;clear hb2 hk2 m1 m2 mp HN HK J0 J1 J2 JP;go_wp2_with fail
  clear q0 q1 q2 q3 q4 q5;refine (zvq A m c 292 #[.pointer (some ⟨w.heap.size+1,0,none⟩),.pointer (some ⟨w.heap.size+1+1,0,none⟩)] w2 (fun j W=>KX p w2 W/\Blk W p 3 #[.int .i64 ((n0+1+(Xn.flats (x.l.take j)).length:Nat):Int)]) (fun _=>False) hm hm2 (zDJ Tryz.func292 (by kernel_rfl) rfl) (fun j hj=>?_) ⟨KX.refl _ _,?_⟩).mono ?_
  ·obtain ⟨b,off,y,vs,rfl,hbl,hy,hl6,hRy,hc⟩:=HS.out.get hj
   obtain ⟨b',off',e',hFb⟩:=HA.out (by omega);injection e' with e'
   injection e' with e1 e2
   subst e1 e2;refine ⟨b,off,vs,rfl,hl6,fun W hW=>?_⟩;have hkW:=HK2.out.trans hW.1;have hbp:=HF.out b hFb;refine ⟨fun i v hi=>hkW.cell hbp (hc i v hi),?_⟩;obtain ⟨v0,v1,v2,v3,v4,v5,rfl⟩:=zrj hl6;have hRW:=hkW.rx HF.out hRy;have hyl:=zrq (Yk hy);have htk:(Xn.flats (x.l.take j)).length+y.flat.length<=(Xn.flats x.l).length:=by
    have h1:(Xn.flats (x.l.take (j+1)++x.l.drop (j+1))).length=(Xn.flats x.l).length:=by rw [List.take_append_drop]
    rw [zqk,Yu,zqi hy,Yu] at h1;omega
   have hbW:=zAE W (.cells #[v0,v1,v2,v3,v4,v5] 82);have hcall:=HIH.out d' F _ y (dep+1) p _ (W.alloc (.cells #[v0,v1,v2,v3,v4,v5] 82)) (zqX _ _ _ _ _ _ hRW hbW) (HKI.out y (Yk hy)) (by omega) (by omega) (by omega) (hW.2.below hbW hW.2.lt) HF.out;have mm1:=hW.1.blk M1.out (by omega);have mm2:=hW.1.blk M2.out (by omega);refine (zro (w.heap.size+1) (w.heap.size+1+1) p dep v0 v1 v2 v3 v4 v5 W (mm1.cell 0) (mm2.cell 0) (by omega) _ hcall).mono ?_;rintro e W' ⟨rfl,hk',hp'⟩
   refine ⟨false,rfl,?_⟩
   show KX p w2 W'/\Blk W' p 3 _
   refine ⟨hW.1.trans ((KX.of hbW).trans hk'),?_⟩;rw [zqi hy,Yu,show n0+1+((Xn.flats (x.l.take j)).length+y.flat.length)=n0+1+(Xn.flats (x.l.take j)).length+y.flat.length by omega];exact hp'
  ·have:=MP.out
   simpa [Xn.flats] using this
  ·rintro e W4 ⟨t,rfl,h⟩
   cases t
   ·rw [if_neg (by simp)] at h
    have HH:=Zh h;clear h;go_wp2_with fail
    go_ret;refine ⟨rfl,HK2.out.trans HH.out.1,?_⟩;have:=HH.out.2;rw [Xd (by rw [HS.out.len];omega),show n0+1+(Xn.flats x.l).length=n0+x.flat.length by omega] at this;exact this
   ·rw [if_pos rfl] at h
    exact h.elim
theorem KX.below' {g:Nat}{w w':World}(h:KX g w w') (hg:w.heap.size<=g):Below w.heap.size w w':=⟨h.os,h.tape,h.output,h.size,fun b hb=>h.block b hb (by omega)⟩
theorem zq0 (F:Nat->Prop) (d:Nat) (us:List Value) (x:Xn) (w:World) (h:RX F d w us x) (hx:xvP x=true) (hF:∀b,F b->b<w.heap.size):Calls Tryz.prog 156 #[.agg us.toArray] w (zBW true w):=by
 have hc:=of_decide_eq_true (show decide (cnt 20 x<=200)=true from hx);obtain ⟨hok,hlen⟩:=zrh 20 x hc;obtain ⟨A,m,c,d',rfl,rfl,-,-⟩:=h.open;obtain ⟨W0,e0,hb0,k0,k1⟩:=al2 w #[.int .i64 x.k,.int .i64 x.a,.int .i64 x.b,.string x.s,.int .i64 x.n,.slice A m c] 82 #[.int .i64 0] 3;have hs0:=k1.lt;have hj0:=k0.far (p:=⟨w.heap.size+1,0,none⟩) (show w.heap.size≠w.heap.size+1 by omega) (.int .i64 0);have hj1:Blk (W0.setCell ⟨w.heap.size+1,0,none⟩ (.int .i64 0)) (w.heap.size+1) 3 #[.int .i64 0]:=k1.set_ 0 (.int .i64 0);have hk0:KX (w.heap.size+1) w (W0.setCell ⟨w.heap.size+1,0,none⟩ (.int .i64 0)):=(KX.of hb0).trans (KX.set 0 _);have HC:=Zh (zsy 20 _ F _ x 1 (w.heap.size+1) 0 _ (hk0.rx (fun b hb=>by have:=hF b hb;omega) h) hok (by omega) (by omega) (by omega) hj1 (fun b hb=>by have:=hF b hb;omega));obtain ⟨q0,q1,q2,q3,q4,q5⟩:=zqv hj0;have p1:W0.cell? ⟨w.heap.size+1,0,none⟩=some (.int .i64 0):=k1.cell 0;have f1:=k1.frozen 0;have HK0:=Zh hk0;have HB:=Zh hb0;clear h hx hF hok k0 k1 hb0 hj0 hj1 hk0;go_enter Tryz.func156,Tryz.ntmps156
 go_wp2_with fail
 refine HC.out.mono ?_;rintro e w' ⟨rfl,hk,-⟩
 have HK:=Zh hk;clear hk;go_wp2_with fail
 go_ret;exact ⟨rfl,((HK0.out.trans HK.out).below' (by omega))⟩
open Go.Shelf
attribute [local go_sem] Oper.semAt_some
theorem RX.lt {F:Nat->Prop}{W:World}:∀ (d:Nat) (us:List Value) (x:Xn),RX F d W us x->RX (fun b=>F b/\b<W.heap.size) d W us x
 | 0,_,_,h=>h.elim
 | d+1,us,.mk k a b s n l,⟨A,m,c,e,h,hA⟩=>⟨A,m,c,e,⟨h.len,h.cap,h.max,fun hn=>by
   obtain ⟨b0,off,e0,hlt,hx⟩:=h.at_ hn;refine ⟨b0,off,e0,hlt,fun j x hj=>?_⟩;obtain ⟨vs,h1,h2,h3⟩:=hx j x hj;exact ⟨vs,h1,RX.lt d vs x h2,h3⟩⟩,fun hn=>by
   obtain ⟨b0,off,e0,hlt,_⟩:=h.at_ hn;obtain ⟨b1,off1,e1,hF⟩:=hA hn;rw [e0] at e1;injection e1 with e1
   injection e1 with e1 e2
   exact ⟨b0,off,e0,e1 ▸ hF,hlt⟩⟩
theorem zNJ {m m':Nat}{P:Program}{l:Nat}{args:Array Value}{W:World}{R:Ending->World->Prop}(h:YieldAt Fence.wide m P l args W R):YieldAt Fence.wide m' P l args W R:=by
 obtain ⟨fn,tmps,assign,body,hy,hR⟩:=h;exact ⟨fn,tmps,assign,body,hy,hR.1,fun c cs _=>hR.2 c cs (room_wide _)⟩
theorem zsi {A A':World}(h:Below A.heap.size A A'):A.grownBy A' none:=⟨h.os,h.tape,h.output,h.size,fun k hk _=>h.block k hk⟩
theorem zIJ (F:Nat->Prop) (d n b3 B:Nat) (y:Xn) (A:Option Addr) (m c:Nat) (w0:World) (hx:RX F d w0 [.int .i64 y.k,.int .i64 y.a,.int .i64 y.b,.string y.s,.int .i64 y.n,.slice A m c] y) (hv:xvP y=true) (hF:∀b,F b->b<w0.heap.size) (hB:Blk w0 B 82 #[.int .i64 y.k,.int .i64 y.a,.int .i64 y.b,.string y.s,.int .i64 y.n,.slice A m c]) (h3:Wf b3 w0) :
  SeqStopsK Fence.wide n Tryz.prog 293 #[.pointer (some ⟨B,0,none⟩)] (fun x:Nd=>#[x.v]) (Kp b3) (fun ys=>ys.map Nd.pr=y.flat.map Xn.pr) (fun _=>True) y.flat.length w0:=by
 intro l J Jx W hW hJ hJx hY h0;have hBlt:=hB.lt;have hBW:Blk W B 82 #[.int .i64 y.k,.int .i64 y.a,.int .i64 y.b,.string y.s,.int .i64 y.n,.slice A m c]:=(hW.block B hBlt).trans hB;obtain ⟨q0,q1,q2,q3,q4,q5⟩:=zqv hBW;have hsW:=hW.size;have hxW:=zqX F d _ _ _ _ hx hW;have HV:=Zh (zq0 F d _ y W hxW hv (fun b hb=>Yh (hF b hb) hsW));have hlen:y.flat.length<=200:=by
  have hc:=of_decide_eq_true (show decide (cnt 20 y<=200)=true from hv);have:=(zrh 20 y hc).2;omega
 have hJg:∀s A A',W.heap.size<=A.heap.size->J s A->A.grownBy A' none->J s A':=fun s A A' _ h hg=>hJ s A A' none h hg (fun r e=>by cases e)
 have HWk:=Zh (fun (A':World) (F':Nat->Prop) (us:List Value) (hr:RX F' d A' us y) (hF':∀b,F' b->b≠b3/\b<A'.heap.size/\¬ named b3 A' b) (hj:J [] A') (hb:Wf b3 A')=>
  zt6 l b3 y.flat.length J Jx (fun s A o h=>hJ s A _ none h (World.grownBy_alloc A o none) (fun r e=>by cases e)) (fun pre x A hj hl=>zNJ (hY pre x A hj hl)) d F' us y [] A' hr hF' hj (by simp) hb)
 have HX:=Zh hxW;have HF:=Zh (fun b hb=>Yh (hF b hb) hsW);have HW3:=Zh (h3.below hW);clear hY hJ hJx hx hxW hF;refine callsIn_wide.2 ?_;go_enter Tryz.func293,Tryz.ntmps293
 go_wp2_with fail
 refine HV.out.mono ?_;rintro e W1 ⟨rfl,hb1⟩
 have HC:=Zh (zru d F _ y W1 (zqX F d _ _ _ _ HX.out hb1) (fun b hb=>Yh (HF.out b hb) hb1.size) (by omega));have HB1:=Zh hb1;clear q0 q1 q2 q3 q4 q5;obtain ⟨q0,q1,q2,q3,q4,q5⟩:=zqv (hBW.below hb1 hBW.lt);clear hb1;go_wp2_with fail
 clear q0 q1 q2 q3 q4 q5;refine HC.out.mono ?_;rintro e W2 ⟨us',rfl,hr,hb2⟩
 have hw1:=HW3.out.below HB1.out;have HK:=Zh (HWk.out W2 (fun b=>W1.heap.size<=b/\b<W2.heap.size) us' (hr.lt _ _ _) (fun b hb=>⟨by have:=hw1.1;omega,hb.2,fun hn=>by
  have:=hw1.2 _ (zCX (hb2.block b3 hw1.1) hn);omega⟩) (hJg _ _ _ HB1.out.size (hJg _ _ _ (Ya _) h0 (zsi HB1.out)) (zsi hb2)) (hw1.below hb2))
 clear hr hb2 hw1 HC HB1;go_wp2_with fail
 refine HK.out.mono ?_;rintro e W3 ⟨t,rfl,hR⟩
 go_wp2_with fail
 go_end0
 rcases hR with ⟨_,⟨ys,hp,hj⟩,_⟩ | ⟨_,q,hx⟩
 ·exact ⟨⟨_,rfl⟩,.inl ⟨ys,hp,hj⟩⟩
 ·exact ⟨⟨_,rfl⟩,.inr ⟨_,trivial,hx⟩⟩
theorem zMW (y:Xn) (A:Option Addr) (m c:Nat) (w:World):Calls Tryz.prog 223 #[.agg #[.int .i64 y.k,.int .i64 y.a,.int .i64 y.b,.string y.s,.int .i64 y.n,.slice A m c]] w fun e w'=>e=.returned (.func (.func 293) #[] #[.pointer (some ⟨w.heap.size,0,none⟩)])/\w' = w.alloc (.cells #[.int .i64 y.k,.int .i64 y.a,.int .i64 y.b,.string y.s,.int .i64 y.n,.slice A m c] 82):=by
 go_enter Tryz.func223,Tryz.ntmps223
 go_wp2_with fail
 go_ret;exact ⟨rfl,rfl⟩
theorem zUF:(Tryz.prog.info? 9).map (fun i=>(i.zero,i.size,i.bytes))=some (some (.string ⟨#[]⟩),1,16):=by kernel_rfl
def nms (xs:List Nd):List Value:=(xs.filter fun x=>x.k == 2).map fun x=>.string x.s
theorem zSz (pre:List Nd) {x:Nd}(h:x.k=2):nms (pre++[x])=nms pre++[.string x.s]:=by simp [nms,h]
theorem zQf (pre:List Nd) {x:Nd}(h:¬ x.k=2):nms (pre++[x])=nms pre:=by simp [nms,h]
theorem zS0 (pre:List Nd):(nms pre).length<=pre.length:=by simp [nms];exact List.length_filter_le _ _
theorem zuI:∀ (ys:List Nd) (E:List Xn),ys.map Nd.pr=E.map Xn.pr->nms ys=((E.filter fun y=>y.k == 2).map Xn.s).map Value.string
 | [],[],_=>rfl
 | [],_::_,h=>by simp at h
 | _::_,[],h=>by simp at h
 | y::ys,e::E,h=>by
  simp only [List.map_cons,List.cons.injEq] at h;have ih:=zuI ys E h.2;have h1:y.k=e.k:=congrArg Prod.fst h.1;have h2:y.s=e.s:=congrArg Prod.snd h.1;unfold nms at ih ⊢;cases hk:(e.k == 2)
  ·have hk1:(y.k == 2)=false:=by rw [h1];exact hk
   simp only [List.filter_cons,hk,hk1,Bool.false_eq_true,if_false];exact ih
  ·have hk1:(y.k == 2)=true:=by rw [h1];exact hk
   simp only [List.filter_cons,hk,hk1,if_true,List.map_cons,h2,ih]
attribute [local go_sem] Oper.semAt_some
theorem zVq:Tryz.prog.underlying 54=some (.slice 9):=by kernel_rfl
theorem zUI {b3:Nat}{w:World}(h3:b3<w.heap.size) (W:World) (l:Nat) (o o':Obj) (hl:w.heap.size<=l) (ho:W.heap[l]? = some o) (hc:o.isCells=false):Kp b3 W (W.putObj l o'):=fun hw=>by
 have hg:=grownBy_putObj' W l o';have hs:(W.putObj l o').heap[b3]? = W.heap[b3]?:=hg.block b3 hw.1 (fun e=>by injection e with e;omega);exact ⟨⟨Yh hw.1 hg.size,fun b hn=>Yh (hw.2 b (zCX hs hn)) hg.size⟩,hg.size,fun b ob _ _ hob hcb=>(hg.block b (Yv.1 hob).1 (fun e=>by injection e with e;subst e;rw [ho] at hob;injection hob with hob;subst hob;rw [hc] at hcb;cases hcb)).trans hob,fun b hn=>.inl (zCX hs hn)⟩
theorem zUH {b3 g' cap' k n₀:Nat}{W w1:World}{v:Value}{tmp:Obj}{ys:List Value}(hv:Boxed W b3 54 v) (hgrow:(W.alloc tmp).grownBy w1 v.ownBlock)
  (hv2:Boxed (w1.setCell ⟨b3,0,none⟩ (.slice (some ⟨g',0,none⟩) (k+1) cap')) b3 54 (.slice (some ⟨g',0,none⟩) (k+1) cap'))
  (hr2:(w1.setCell ⟨b3,0,none⟩ (.slice (some ⟨g',0,none⟩) (k+1) cap')).ownsRow n₀ 9 1 (.slice (some ⟨g',0,none⟩) (k+1) cap') (k+1) ys)
  (hob:(Value.slice (some ⟨g',0,none⟩) (k+1) cap').ownBlock=v.ownBlock\/(Value.slice (some ⟨g',0,none⟩) (k+1) cap').ownBlock=some (W.alloc tmp).heap.size) :
  Kp b3 W (w1.setCell ⟨b3,0,none⟩ (.slice (some ⟨g',0,none⟩) (k+1) cap')):=fun hw=>by
 have hs1:W.heap.size<=w1.heap.size:=by have:=hgrow.size;simp at this;omega
 have hs2:(w1.setCell ⟨b3,0,none⟩ (.slice (some ⟨g',0,none⟩) (k+1) cap')).heap.size=w1.heap.size:=by simp
 have hg':g' < (w1.setCell ⟨b3,0,none⟩ (.slice (some ⟨g',0,none⟩) (k+1) cap')).heap.size:=by
  rcases hr2.2 with ⟨h,_⟩ | ⟨g,cap,cur,h,_,hh,_⟩
  ·cases h
  ·cases h
   exact (Yv.1 hh).1
 have hnm:∀b,named b3 (w1.setCell ⟨b3,0,none⟩ (.slice (some ⟨g',0,none⟩) (k+1) cap')) b->b=g':=by
  rintro b ⟨u,h1,h2⟩
  rw [hv2.cell] at h1;injection h1 with h1
  subst h1;injection h2 with h2
  exact h2.symm
 refine ⟨⟨by have:=hw.1;omega,fun b hn=>by rw [hnm b hn];exact hg'⟩,by omega,fun b o hb hn ho hc=>?_,fun b hn=>?_⟩
 ·have hlt:=(Yv.1 ho).1
  rw [Yl _ _ _ _ hb,hgrow.block b (by simp;omega) (fun e=>hn ⟨v,hv.cell,e.symm⟩),Below.heap_alloc _ _ _ hlt];exact ho
 ·rw [hnm b hn]
  rcases hob with h | h
  ·exact .inl ⟨v,hv.cell,h.symm⟩
  ·injection h with h
   exact .inr (by rw [show g' = _ from h];simp)
theorem zsB (F:Nat->Prop) (d:Nat) (us:List Value) (y:Xn) (w:World) (h:RX F d w us y) (hx:xvP y=true) (hF:∀b,F b->b<w.heap.size) :
  Calls Tryz.prog 158 #[.agg us.toArray] w fun e W'=>∃ (A:Option Addr) (n c:Nat) (ns:List ByteArray),e=.returned (.slice A n c)/\Sl 1 zql W' A n c ns/\(∀s,s∈ns ↔ s∈y.vars)/\Below w.heap.size w W'/\
   (y.vars=[]->A=none/\c=0)/\(∀s,y.vars=[s]->ns=[s]/\∃g,A=some ⟨g,0,none⟩/\w.heap.size<=g):=by
 obtain ⟨A,m,c,d',rfl,rfl,-,-⟩:=h.open;have hlen:y.flat.length<=200:=by
  have hc:=of_decide_eq_true (show decide (cnt 20 y<=200)=true from hx);have:=(zrh 20 y hc).2;omega
 obtain ⟨i0,hi,hz0,hz1,hz2⟩:=info_parts zUF;have HW:=Zh (zMW y A m c);refine (callsIn_wide (n:=5)).1 ?_;refine callsIn_of_wp_marks Tryz.func158 rfl trivial ?_ rfl;simp only [Tryz.ntmps158,List.size_toArray,List.length_cons,List.length_nil,Nat.reduceAdd,Nat.reduceSub,Array.replicate_succ,Array.replicate_zero,List.push_toArray,List.append_toArray,List.nil_append,List.cons_append]
 gi_wp2_with (refine ⟨trivial,?_⟩;gi_at_call 223;refine (callsIn_wide.2 (HW.out _)).mono ?_;rintro e w' ⟨rfl,rfl⟩)
 have hsz:(((w.alloc (.cells #[.int .i64 y.k,.int .i64 y.a,.int .i64 y.b,.string y.s,.int .i64 y.n,.slice A m c] 82)).alloc (.cells #[.slice none 0 0] 54)).alloc (.cells #[.int .i64 y.k,.int .i64 y.a,.int .i64 y.b,.string y.s,.int .i64 y.n,.slice A m c] 82)).heap.size=w.heap.size+3:=by simp
 have bO:Boxed (((w.alloc (.cells #[.int .i64 y.k,.int .i64 y.a,.int .i64 y.b,.string y.s,.int .i64 y.n,.slice A m c] 82)).alloc (.cells #[.slice none 0 0] 54)).alloc (.cells #[.int .i64 y.k,.int .i64 y.a,.int .i64 y.b,.string y.s,.int .i64 y.n,.slice A m c] 82)) (w.heap.size+1) 54 (.slice none 0 0):=by
  have:=Boxed.new (w.alloc (.cells #[.int .i64 y.k,.int .i64 y.a,.int .i64 y.b,.string y.s,.int .i64 y.n,.slice A m c] 82)) 54 (.slice none 0 0);rw [World.size_alloc] at this;exact this.alloc _
 have bE:Blk (((w.alloc (.cells #[.int .i64 y.k,.int .i64 y.a,.int .i64 y.b,.string y.s,.int .i64 y.n,.slice A m c] 82)).alloc (.cells #[.slice none 0 0] 54)).alloc (.cells #[.int .i64 y.k,.int .i64 y.a,.int .i64 y.b,.string y.s,.int .i64 y.n,.slice A m c] 82)) (w.heap.size+1+1) 82 #[.int .i64 y.k,.int .i64 y.a,.int .i64 y.b,.string y.s,.int .i64 y.n,.slice A m c]:=by
  have:=Blk.new ((w.alloc (.cells #[.int .i64 y.k,.int .i64 y.a,.int .i64 y.b,.string y.s,.int .i64 y.n,.slice A m c] 82)).alloc (.cells #[.slice none 0 0] 54)) 82 #[.int .i64 y.k,.int .i64 y.a,.int .i64 y.b,.string y.s,.int .i64 y.n,.slice A m c];simp only [World.size_alloc] at this;exact this
 have hB0:Below w.heap.size w (((w.alloc (.cells #[.int .i64 y.k,.int .i64 y.a,.int .i64 y.b,.string y.s,.int .i64 y.n,.slice A m c] 82)).alloc (.cells #[.slice none 0 0] 54)).alloc (.cells #[.int .i64 y.k,.int .i64 y.a,.int .i64 y.b,.string y.s,.int .i64 y.n,.slice A m c] 82)):=(((Yp _ w).alloc (Ya _) _).alloc (by simp) _).alloc (by simp;omega) _;generalize (((w.alloc (.cells #[.int .i64 y.k,.int .i64 y.a,.int .i64 y.b,.string y.s,.int .i64 y.n,.slice A m c] 82)).alloc (.cells #[.slice none 0 0] 54)).alloc (.cells #[.int .i64 y.k,.int .i64 y.a,.int .i64 y.b,.string y.s,.int .i64 y.n,.slice A m c] 82))=W0 at *;have hwf:Wf (w.heap.size+1) W0:=⟨by omega,fun b hn=>by
  obtain ⟨v,h1,h2⟩:=hn;rw [bO.cell] at h1;injection h1 with h1
  subst h1;cases h2⟩
 refine wpIn_rangeFunc_ownH (F:=Fence.wide) rfl (by omega) (gf:=293) (lb:=#[.pointer (some ⟨w.heap.size+1+1,0,none⟩)]) rfl trivial (enters_of Tryz.func293 (by kernel_rfl) rfl)
  (zIJ F (d' + 1) _ (w.heap.size+1) (w.heap.size+1+1) y A m c W0 (zqX F _ _ _ _ _ h hB0) hx (fun b hb=>Yh (hF b hb) hB0.size) bE hwf) (fun h k=>Kp.trans h k) (fun W l o o' hl ho hc _=>zUI hwf.1 W l o o' hl ho hc) (Yp _ _) (fun _=>rfl)
  (fun pre W=>(∃v,Boxed W (w.heap.size+1) 54 v/\W.ownsRow w.heap.size 9 1 v (nms pre).length (nms pre)/\(nms pre=[]->v=.slice none 0 0))/\Below w.heap.size w W)
  (fun _ _ _=>False)
  (OwnFrom.and (Own.from (holdsRow_own w.heap.size (w.heap.size+1) 54 9 1 (fun pre=>(nms pre).length) (fun pre=>nms pre) (fun pre v=>nms pre=[]->v=.slice none 0 0)) _) (ownFrom_below (Ya _) (by omega)))
  (fun _ _ _ _ _ hs _ _=>hs)
  ⟨⟨_,bO,World.ownsRow_nil _ _ _ _,fun _=>rfl⟩,hB0⟩
  (fun x a' W=>∃Bx,w.heap.size+1<Bx/\Blk W Bx 82 #[.int .i64 x.k,.int .i64 x.a,.int .i64 x.b,.string x.s,.int .i64 x.i,x.L]/\a' = { tmps:=#[.agg #[.int .i64 y.k,.int .i64 y.a,.int .i64 y.b,.string y.s,.int .i64 y.n,.slice A m c],.pointer (some ⟨w.heap.size,0,none⟩),.slice none 0 0,.pointer (some ⟨w.heap.size+1,0,none⟩),.pointer (some ⟨Bx,0,none⟩),.agg #[.int .i64 y.k,.int .i64 y.a,.int .i64 y.b,.string y.s,.int .i64 y.n,.slice A m c],.func (.func 293) #[] #[.pointer (some ⟨w.heap.size+1+1,0,none⟩)],x.v,undef,undef,undef,undef,undef,undef,undef,undef,undef,undef,undef,undef],defers:=[] })
  (fun x a' _ W W' row ⟨Bx,h1,h2,h3⟩ hg hr=>⟨Bx,h1,(hg.block Bx h2.lt (fun e=>by
   obtain ⟨_,o,ho,hc⟩:=hr Bx e.symm;rw [show W.heap[Bx]? = _ from h2] at ho;cases ho;cases hc)).trans h2,h3⟩) ?assign ?body ?done ?stop
 case assign=>
  rintro l pre x W K ⟨⟨v,hv,hrow,hG⟩,hB⟩ hK
  dsimp only [Nd.v,Nd.L]
  gi_wp2
  exact hK _ _ ((KeepsOthers.alloc _ _).from _) ((Kp.refl _ W).alloc _) ⟨⟨v,hv.alloc _,hrow.alloc _,hG⟩,hB.alloc hB.size _⟩ ⟨W.heap.size,hv.lt,Blk.new W 82 #[.int .i64 x.k,.int .i64 x.a,.int .i64 x.b,.string x.s,.int .i64 x.i,x.L],rfl⟩
 case body=>
  rintro l pre x a' W hl ⟨r,hr⟩ ⟨⟨v,hv,hrow,hG⟩,hB⟩ ⟨Bx,hBx,bX,rfl⟩ hlt
  unfold Nd.L at bX;obtain ⟨q0,q1,q2,q3,q4,q5⟩:=zGa bX;have hc:=hv.cell;have hpl:=zS0 pre;have hsz2:=hB.size;dsimp only [Nd.v,Nd.L]
  gi_wp2_with (gi_at_builtin;refine wpListIn_append_own_at _ rfl _ _ 54 rfl w.heap.size 9 i0 (.string ⟨#[]⟩) 1 16 zVq hi hz0 hz1 hz2 rfl (by decide) _ _ _ rfl (hrow.alloc _) ⟨W.heap.size,0,none⟩ 1 1 [.string x.s] rfl rfl (cell_one_new _ _ _) (by simp [Value.oneCell']) (by simp [maxLen];omega) (by omega) (by simp;omega) ?_;intro v' w1 hown' hgrow _ hob;obtain ⟨g',cap',rfl⟩:=ownsRow_succ hown';obtain ⟨hv1,hv2,hr2,hk2,hb2⟩:=hv.appended (by decide) hrow hB.size (by omega) hown' hgrow;have hc1:=hv1.cell;have hf1:=hv1.frozen)
  ·have hx2:x.k=2:=by simpa using ‹(x.k == 2)=true›
   exact ⟨hk2.from _,zUH hv hgrow hv2 hr2 hob,⟨_,hv2,by rw [zSz pre hx2];simpa using hr2,fun e=>by rw [zSz pre hx2] at e;simp at e⟩,hB.trans hb2⟩
  ·have hx2:¬ x.k=2:=by simpa using ‹(x.k == 2)=false›
   exact ⟨KeepsFrom.refl _ _,Kp.refl _ _,⟨v,hv,by rw [zQf pre hx2];exact hrow,fun e=>hG (by rw [zQf pre hx2] at e;exact e)⟩,hB⟩
 case done=>
  rintro D ys W hD hys ⟨⟨v,hv,hrow,hG⟩,hB⟩ hK
  have hn:nms ys=y.vars.map Value.string:=zuI ys y.flat hys;rw [hn] at hrow hG;rw [Xe] at hrow;have hvl:y.vars.length<=200:=by
   unfold Xn.vars;rw [Xe];exact Yq (List.length_filter_le _ _) hlen
  have hc:=hv.cell;have hsB:=hB.size;have hDl:=(Yv.1 hK).1;by_cases h0:y.vars=[]
  ·have hv0:v=.slice none 0 0:=hG (by rw [h0];rfl)
   subst hv0;have HS:=Zh (ztW W);have hcl:=World.block_lt_of_cell? W ⟨w.heap.size+1,0,none⟩ hc
   gi_wp2_with (refine ⟨trivial,?_⟩;gi_at_call 224;refine (callsIn_wide.2 HS.out).mono ?_;rintro e w1 ⟨rfl,hb1⟩;have hc1:w1.cell? ⟨w.heap.size+1,0,none⟩=some (.slice none 0 0):=(hb1.cell (p:=⟨w.heap.size+1,0,none⟩) hcl).trans hc)
   refine ⟨trivial,?_⟩;refine (callsIn_wide.2 (Tryz.slices_Compact_string_empty none 0 w1)).mono ?_;rintro e w2 ⟨rfl,hw2⟩
   obtain rfl:=hw2.symm
   gi_wp2
   have hK2:w1.heap[D]? = some (.deferred (some [])):=(hb1.block D hDl).trans hK;refine ⟨by simp,.inl ⟨_,_,rfl,run_takeDeferred hK2,?_⟩⟩;refine ⟨_,results_tmp rfl _ _ _,none,0,0,[],rfl,Sl.nil _,by rw [h0];simp,?_,fun _=>⟨rfl,rfl⟩,fun s hs=>by rw [h0] at hs;cases hs⟩;exact (hB.trans (hb1.mono hsB)).trans (belowK_b (w:=w) (Ya _) w1 D _ _ (by have:=hB0.size;omega) hK2 rfl rfl)
  ·have hpos:0<y.vars.length:=by
    cases hy:y.vars with
    | nil=>exact absurd hy h0
    | cons a l=>simp
   obtain ⟨g,cap,cur,rfl,hg1,hgc,hle,hmx,hcs,htk⟩:∃g cap cur,v=.slice (some ⟨g,0,none⟩) y.vars.length cap/\w.heap.size<=g/\W.heap[g]? = some (.cells cur 9 (0,0))/\y.vars.length<=cap/\cap<=maxLen/\cur.size=cap*1/\cur.toList.take (y.vars.length*1)=y.vars.map Value.string:=by
    rcases hrow.2 with ⟨_,h⟩ | h
    ·omega
    ·exact h
   have hgl:g<W.heap.size:=(Yv.1 hgc).1;have hbg:w.heap.size+1≠g:=by
    rintro rfl
    have hh:W.heap[w.heap.size+1]? = some (.cells #[_] 54):=hv;rw [hgc] at hh;injection hh with hh
    injection hh with _ hh
    exact absurd hh (by decide)
   have hDg:D≠g:=by
    rintro rfl
    rw [hgc] at hK;cases hK
   have hH:zrO W g y.vars:=fun j s hj=>by
    have hb:Blk W g 9 cur:=hgc;refine ⟨?_,hb.frozen j⟩;rw [hb.cell];have hj':(y.vars.map Value.string)[j]? = some (.string s):=by rw [List.getElem?_map,hj];rfl
    rw [<- htk,Xf (by have:=(Yb.1 hj).1;omega)] at hj'
    simpa using hj'
   have HS:=Zh (ztV g _ cap y.vars W hH rfl hgl (by omega))
   gi_wp2_with (refine ⟨trivial,?_⟩;gi_at_call 224;refine (callsIn_wide.2 HS.out).mono ?_;rintro e w1 ⟨rfl,hk1,ts,htl,htm,hH1⟩;have hc1:w1.cell? ⟨w.heap.size+1,0,none⟩=some (.slice (some ⟨g,0,none⟩) y.vars.length cap):=hk1.cell hbg hc)
   refine ⟨trivial,?_⟩;refine (callsIn_wide.2 (zrv g _ cap ts w1 hH1 htl (by omega) hle)).mono ?_;rintro e w2 ⟨us,rfl,hul,hum,hH2,hk2,hu1⟩
   gi_wp2
   have hk12:=hk1.trans hk2;have hK2:w2.heap[D]? = some (.deferred (some [])):=(hk12.block D hDl hDg).trans hK;refine ⟨by simp,.inl ⟨_,_,rfl,run_takeDeferred hK2,?_⟩⟩;have hgp:=grownBy_putObj' w2 D (.deferred none);refine ⟨_,results_tmp rfl _ _ _,some ⟨g,0,none⟩,us.length,cap,us,rfl,⟨rfl,by omega,by simpa [maxLen] using hmx,fun _=>⟨g,0,rfl,?_,fun j x hj=>⟨[.string x],rfl,rfl,fun i u hi=>?_⟩⟩⟩,fun s=>(hum s).trans (htm s),?_,fun e=>absurd e h0,fun s hs=>⟨hu1 s ?_,g,rfl,hg1⟩⟩
   ·have:=hk12.size
    have:=hgp.size;omega
   ·rcases i with _ | i
    ·simp at hi
     subst hi;refine cell_kept ?_ hgp (fun r e=>by cases e;exact ⟨_,hK2,rfl⟩);have:=(hH2 j x hj).1
     rwa [show 0+j*1+0=j by omega]
    ·simp at hi
   ·exact (hB.trans ((hk12.below (by omega)).mono hg1)).trans (belowK_b (w:=w) (Ya _) w2 D _ _ (by have:=hB0.size;omega) hK2 rfl rfl)
   ·rw [hs] at htl htm
    obtain ⟨t,rfl⟩:∃t,ts=[t]:=List.length_eq_one_iff.1 htl;have:=(htm t).1 (by simp);simp at this;rw [this]
 case stop=>
  rintro D c pre W _ _ h _
  exact h.elim
def zsf (c:Int) (s:ByteArray):List PanicEntry:=[{ v:=.iface 164 (.agg #[.int .i64 c,.string s]),recovered:=false }]
def zwS (G:Prop) (w:World) (e:Ending) (w':World):Prop:=Below w.heap.size w w'/\((∃c s,e=.panicked (zsf c s))\/(e=.returned (.tuple #[])/\G))
theorem zqo (ok:Bool) (c:Int) (s:ByteArray) (w:World):Calls Tryz.prog 81 #[.bool ok,.int .i64 c,.string s] w fun e w'=>((ok=false/\e=.panicked (zsf c s))\/(ok=true/\e=.returned (.tuple #[])))/\w' = w:=by
 cases ok
 ·go_enter Tryz.func81,Tryz.ntmps81
  go_wp2_with fail
  exact ⟨rfl,.inl ⟨trivial,rfl⟩,rfl⟩
 ·go_enter Tryz.func81,Tryz.ntmps81
  go_wp2_with fail
  go_end0
  exact ⟨.inr ⟨trivial,rfl⟩,rfl⟩
theorem Sl.take {α:Type}{k:Nat}{R:World->List Value->α->Prop}{W:World}{A:Option Addr}{n c:Nat}{xs:List α}(h:Sl k R W A n c xs) {i:Nat}(hi:i<=n):Sl k R W A i c (xs.take i):=
 ⟨by rw [Yr,h.len];omega,Yq hi h.cap,h.max,fun h0=>by
  obtain ⟨b,off,e,hb,hc⟩:=h.at_ (by omega);refine ⟨b,off,e,hb,fun j x hx=>hc j x ?_⟩;have hj:j<i:=by have:=(Yb.1 hx).1;rw [Yr] at this;omega
  rwa [Xf hj] at hx⟩
theorem zsm {xs:List ByteArray}(h:∀ (m:Nat) (x:ByteArray),xs[m]? = some x->x ∉ xs.take m):xs.Nodup:=by
 show xs.Pairwise (· ≠ ·)
 rw [List.pairwise_iff_getElem];intro i j hi hj hij e;refine h j _ (Yo hj) ?_;rw [List.mem_iff_getElem?];refine ⟨i,?_⟩;rw [Xf hij,<- e];exact Yo hi
theorem zso (A:Option Addr) (n c:Nat) (xs:List ByteArray) (w:World) (h:Sl 1 zql w A n c xs) :
  Calls Tryz.prog 84 #[.slice A n c] w (zwS xs.Nodup w):=by
 have hn:=h.cap;have hm:=h.max;have HL:=Zh h.len;have HS:=Zh h;clear h;go_enter Tryz.func84,Tryz.ntmps84
 go_wp2_with fail
 go_loopw [6] (fun i wr=>∃j:Nat,j<=n/\i=.int .i64 j/\Hid (∀ (m:Nat) (x:ByteArray),m<j->xs[m]? = some x->x ∉ xs.take m)/\wr=w) (fun i _=>n - (intOf i).toNat)
 case atStart=>exact ⟨0,Nat.zero_le _,rfl,fun m x hm=>absurd hm (by omega),rfl⟩
 case round=>
  obtain ⟨j,hj,rfl,HZ,rfl⟩:=hrel;by_cases hlt:j<n
  ·obtain ⟨b,off,x,vs,rfl,hbl,hx,hk,hR,hc⟩:=HS.out.get hlt
   unfold zql at hR;subst hR;have q0:=hc 0 _ rfl;rw [Nat.mul_one,Nat.add_zero] at q0;have HX:=Zh hx;have HT:=Zh (HS.out.take (i:=j) (by omega));clear hx hc hk;have HC:=Zh (zqd _ _ _ _ x wr HT.out);go_wp2_with fail
   refine HC.out.mono ?_;rintro e w' ⟨t,rfl,ht,hw'⟩
   obtain rfl:=hw'.symm;have HI:=Zh ht;have HN:=Zh (zqo (!t) 8 x wr);clear ht;go_wp2_with fail
   refine HN.out.mono ?_;rintro e w' ⟨h,hw'⟩
   obtain rfl:=hw'.symm;rcases h with ⟨ht,rfl⟩ | ⟨ht,rfl⟩
   ·exact ⟨rfl,Yp _ _,.inl ⟨_,_,rfl⟩⟩
   ·go_wp2_with fail
    refine ⟨⟨j+1,by omega,by go_num,fun m y hm hy=>?_,trivial⟩,by simp [intOf];omega⟩;by_cases hmj:m<j
    ·exact HZ.out m y hmj hy
    ·obtain rfl:m=j:=by omega
     rw [HX.out] at hy;injection hy with hy
     rw [<- hy];intro hin;rw [HI.out.2 hin] at ht;cases ht
  ·go_wp2_with fail
   go_end0
   exact ⟨Yp _ _,.inr ⟨rfl,zsm fun m x hx=>HZ.out m x (by
    have:=(Yb.1 hx).1;have:=HL.out;omega) hx⟩⟩
def RLk (w:World) (X:Nat) (st nm md:List ByteArray):Prop:=∃A n c B m q C i j,Blk w X 168 #[.slice A n c,.slice B m q,.slice C i j]/\Sl 1 zql w A n c st/\Sl 1 zql w B m q nm/\Sl 1 zql w C i j md
theorem RLk.next {w w':World}{X:Nat}{st nm md:List ByteArray}(h:RLk w X st nm md) (hb:Below w.heap.size w w'):RLk w' X st nm md:=by
 obtain ⟨A,n,c,B,m,q,C,i,j,k,h1,h2,h3⟩:=h;exact ⟨A,n,c,B,m,q,C,i,j,k.below hb k.lt,h1.next zqW hb,h2.next zqW hb,h3.next zqW hb⟩
theorem zr7 (F:Nat->Prop) (d:Nat) (us:List Value) (y:Xn) (w:World) (X:Nat) (st nm md:List ByteArray) (h:RX F d w us y) (hx:xvP y=true) (hF:∀b,F b->b<w.heap.size) (hL:RLk w X st nm md) :
  Calls Tryz.prog 150 #[.pointer (some ⟨X,0,none⟩),.agg us.toArray] w (zwS (∀s∈y.vars,s∈nm) w):=by
 obtain ⟨A0,m0,c0,d',rfl,rfl,-,-⟩:=h.open;obtain ⟨W0,e0,hb0,k0⟩:=al1 w #[.int .i64 y.k,.int .i64 y.a,.int .i64 y.b,.string y.s,.int .i64 y.n,.slice A0 m0 c0] 82;have HN:=Zh (zsB F _ _ y W0 (zqX _ _ _ _ _ _ h hb0) hx (fun b hb=>Yh (hF b hb) hb0.size));have HL:=Zh (hL.next hb0);have HB0:=Zh hb0;obtain ⟨q0,q1,q2,q3,q4,q5⟩:=zqv k0;clear h hx hF hL hb0 k0;go_enter Tryz.func150,Tryz.ntmps150
 go_wp2_with fail
 clear q0 q1 q2 q3 q4 q5 e0;refine HN.out.mono ?_;rintro e w1 ⟨A,n,c,ns,rfl,hs,hmem,hb1,-,-⟩
 obtain ⟨A1,n1,c1,A2,n2,c2,A3,n3,c3,kX,s1,s2,s3⟩:=HL.out.next hb1;have p1:w1.cell? ⟨X,1,none⟩=some (.slice A2 n2 c2):=kX.cell 1;have HB:=Zh (zAA HB0.out hb1);have HM:=Zh hmem;have HS:=Zh hs;have HL2:=Zh hs.len;have H2:=Zh s2;have hn:=hs.cap;have hm:=hs.max;clear hs hmem hb1 kX s1 s2 s3 HL HN HB0;go_wp2_with fail
 go_loopw [9] (fun i wr=>∃j:Nat,j<=n/\i=.int .i64 j/\Hid (∀ (m:Nat) (s:ByteArray),m<j->ns[m]? = some s->s∈nm)/\wr=w1) (fun i _=>n - (intOf i).toNat)
 case atStart=>exact ⟨0,Nat.zero_le _,rfl,fun m x hm=>absurd hm (by omega),rfl⟩
 case round=>
  obtain ⟨j,hj,rfl,HZ,hwr⟩:=hrel;obtain rfl:=hwr.symm;by_cases hlt:j<n
  ·obtain ⟨b,off,x,vs,rfl,hbl,hx,hk,hR,hc⟩:=HS.out.get hlt
   unfold zql at hR;subst hR;have q0:=hc 0 _ rfl;rw [Nat.mul_one,Nat.add_zero] at q0;have HX:=Zh hx;have HC:=Zh (zqd _ _ _ _ x w1 H2.out);clear hx hc hk;go_wp2_with fail
   refine HC.out.mono ?_;rintro e w' ⟨t,rfl,ht,hw'⟩
   obtain rfl:=hw'.symm;have HI:=Zh ht;have HNd:=Zh (zqo t 7 x w1);clear ht;go_wp2_with fail
   refine HNd.out.mono ?_;rintro e w' ⟨h,hw'⟩
   obtain rfl:=hw'.symm;rcases h with ⟨ht,rfl⟩ | ⟨ht,rfl⟩
   ·exact ⟨rfl,HB.out,.inl ⟨_,_,rfl⟩⟩
   ·go_wp2_with fail
    refine ⟨⟨j+1,by omega,by go_num,fun m z hm hz=>?_,trivial⟩,by simp [intOf];omega⟩;by_cases hmj:m<j
    ·exact HZ.out m z hmj hz
    ·obtain rfl:m=j:=by omega
     rw [HX.out] at hz;injection hz with hz
     rw [<- hz];exact HI.out.1 ht
  ·go_wp2_with fail
   go_end0
   refine ⟨HB.out,.inr ⟨rfl,fun s hs=>?_⟩⟩;obtain ⟨m,hm1⟩:=List.mem_iff_getElem?.1 ((HM.out s).2 hs);exact HZ.out m s (by
    have:=(Yb.1 hm1).1;have:=HL2.out;omega) hm1
theorem zr2 (F:Nat->Prop) (d:Nat) (us:List Value) (y:Xn) (s:ByteArray) (A:Option Addr) (n c:Nat) (bf:List ByteArray) (w:World) (X:Nat) (st nm md:List ByteArray) (h:RX F d w us y) (hx:xvP y=true) (hF:∀b,F b->b<w.heap.size) (hL:RLk w X st nm md) (hbf:Sl 1 zql w A n c bf) :
  Calls Tryz.prog 149 #[.pointer (some ⟨X,0,none⟩),.string s,.agg us.toArray,.slice A n c] w (zwS (s∈st/\s ∉ bf/\∀z∈y.vars,z∈nm) w):=by
 obtain ⟨A0,m0,c0,d',rfl,rfl,-,-⟩:=h.open;obtain ⟨W0,e0,hb0,k0⟩:=al1 w #[.int .i64 y.k,.int .i64 y.a,.int .i64 y.b,.string y.s,.int .i64 y.n,.slice A0 m0 c0] 82;have HK:=Zh (zr7 F _ _ y W0 X st nm md (zqX _ _ _ _ _ _ h hb0) hx (fun b hb=>Yh (hF b hb) hb0.size) (hL.next hb0));obtain ⟨A1,n1,c1,A2,n2,c2,A3,n3,c3,kX,s1,s2,s3⟩:=hL.next hb0;have p0:W0.cell? ⟨X,0,none⟩=some (.slice A1 n1 c1):=kX.cell 0;have HC1:=Zh (zqd _ _ _ _ s W0 s1);have HC2:=Zh (zqd _ _ _ _ s W0 (hbf.next zqW hb0));have HB0:=Zh hb0;obtain ⟨q0,q1,q2,q3,q4,q5⟩:=zqv k0;clear h hx hF hL hb0 k0 kX s1 s2 s3 hbf;go_enter Tryz.func149,Tryz.ntmps149
 go_wp2_with fail
 clear e0;refine HC1.out.mono ?_;rintro e w' ⟨t,rfl,ht,hw'⟩
 obtain rfl:=hw'.symm;have HI:=Zh ht;have HN:=Zh (zqo t 7 s W0);clear ht;go_wp2_with fail
 refine HN.out.mono ?_;rintro e w' ⟨h,hw'⟩
 obtain rfl:=hw'.symm;rcases h with ⟨ht,rfl⟩ | ⟨ht,rfl⟩
 ·exact ⟨rfl,HB0.out,.inl ⟨_,_,rfl⟩⟩
 have HT:=Zh (HI.out.1 ht);clear ht HI HN HC1;go_wp2_with fail
 refine HC2.out.mono ?_;rintro e w' ⟨t2,rfl,ht,hw'⟩
 obtain rfl:=hw'.symm;have HI:=Zh ht;have HN:=Zh (zqo (!t2) 8 s W0);clear ht;go_wp2_with fail
 refine HN.out.mono ?_;rintro e w' ⟨h,hw'⟩
 obtain rfl:=hw'.symm;rcases h with ⟨ht,rfl⟩ | ⟨ht,rfl⟩
 ·exact ⟨rfl,HB0.out,.inl ⟨_,_,rfl⟩⟩
 have HT2:Hid (s ∉ bf):=fun hin=>by
  rw [HI.out.2 hin] at ht;cases ht
 clear ht HI HN HC2;go_wp2_with fail
 refine HK.out.mono ?_;rintro e w1 ⟨hb1,h⟩
 have HB:=Zh (zAA HB0.out hb1);rcases h with ⟨c0,s0,rfl⟩ | ⟨rfl,hG⟩
 ·exact ⟨rfl,HB.out,.inl ⟨_,_,rfl⟩⟩
 ·have HG:=Zh hG
  clear hG hb1;go_wp2_with fail
  go_end0
  exact ⟨HB.out,.inr ⟨rfl,HT.out,HT2.out,HG.out⟩⟩
def zqq (w:World) (base:Nat) (v:Value) (xs:List ByteArray):Prop:=w.ownsRow base 9 1 v xs.length (xs.map Value.string)
theorem zqq.nil (w:World) (base:Nat):zqq w base (.slice none 0 0) []:=World.ownsRow_nil _ _ _ _
theorem zqq.below {w w':World}{base:Nat}{v:Value}{xs:List ByteArray}(h:zqq w base v xs) (hb:Below w.heap.size w w'):zqq w' base v xs:=by
 refine ⟨h.1,?_⟩;rcases h.2 with hn | ⟨g,cap,cur,hv,hbg,hg,rest⟩
 ·exact .inl hn
 ·exact .inr ⟨g,cap,cur,hv,hbg,(hb.block g (Yv.1 hg).1).trans hg,rest⟩
theorem zqq.sl {w:World}{base:Nat}{v:Value}{xs:List ByteArray}(h:zqq w base v xs):∃A c,v=.slice A xs.length c/\Sl 1 zql w A xs.length c xs:=by
 rcases h.2 with ⟨rfl,h0⟩ | ⟨g,cap,cur,rfl,hbg,hg,h1,h2,h3,h4⟩
 ·have:xs=[]:=List.eq_nil_of_length_eq_zero h0
  subst this;exact ⟨none,0,rfl,Sl.nil _⟩
 ·refine ⟨_,cap,rfl,rfl,h1,by simpa [maxLen] using h2,fun _=>⟨g,0,rfl,(Yv.1 hg).1,fun j x hj=>⟨[.string x],rfl,rfl,fun i u hi=>?_⟩⟩⟩
  rcases i with _ | i
  ·simp at hi
   subst hi;have hb:Blk w g 9 cur:=hg;rw [hb.cell,show 0+j*1+0=j by omega];have hj':(xs.map Value.string)[j]? = some (.string x):=by rw [List.getElem?_map,hj];rfl
   rw [<- h4,Xf (by have:=(Yb.1 hj).1;omega)] at hj'
   simpa using hj'
  ·simp at hi
theorem zqa {w:World}{ops:Array Oper}{rest:List Oper}{o:Oper}{a:Act}{Q:Exit->Act->World->Prop}(hgd:o.guard=none) (s x:Operand) (ho:o.op=.call { callee:=.builtin .append,args:=#[s,x],argTypes:=#[54,54] })
  (base:Nat) (v:Value) (xs:List ByteArray) (hs:a.eval s=v) (hown:zqq w base v xs) (ad:Addr) (c:Nat) (z:ByteArray) (hx:a.eval x=.slice (some ad) 1 c) (hc:w.cell? ad=some (.string z)) (hl:xs.length<=1000) (hb:base<=w.heap.size)
  (h:∀A' c' w',zqq w' base (.slice A' (xs.length+1) c') (xs++[z])->Below base w w'->wpList Tryz.prog ops Q rest (a.put o.dst (.slice A' (xs.length+1) c')) w'):wpList Tryz.prog ops Q (o::rest) a w:=by
 obtain ⟨i0,hi,hz0,hz1,hz2⟩:=info_parts zUF;refine wpList_append_own_at _ hgd s x 54 ho base 9 i0 (.string ⟨#[]⟩) 1 16 zVq hi hz0 hz1 hz2 rfl (by decide) v xs.length (xs.map Value.string) hs hown ad 1 c [.string z] hx rfl (fun j u hj=>?_) (by simp [Value.oneCell']) (by simp [maxLen];omega) (by omega) hb (fun v' w' h2 h3 _ h5=>?_)
 ·rcases j with _ | j
  ·simp at hj
   subst hj;rw [show ad.add 0=ad by unfold Addr.add;simp];exact hc
  ·simp at hj
 ·obtain ⟨g',cap',rfl⟩:=ownsRow_succ h2
  refine h _ _ w' ?_ ((Yp _ _).grown h3 hb (fun k hk=>?_))
  ·have e1:(xs++[z]).length=xs.length+1:=by simp
   have e2:(xs++[z]).map Value.string=xs.map Value.string++[.string z]:=by simp
   unfold zqq;rw [e1,e2];exact h2
  ·rcases hown.2 with ⟨rfl,_⟩ | ⟨g,cap,cur,rfl,hbg,_⟩
   ·cases hk
   ·simp [Value.ownBlock] at hk;omega
theorem zrc {w:World}{g:Nat}{t:TypeId}{a b c:Value}(h:Blk w g t #[a,b,c]):w.cell? ⟨g,0,none⟩=some a/\w.cell? ⟨g,1,none⟩=some b/\w.cell? ⟨g,2,none⟩=some c:=⟨h.cell 0,h.cell 1,h.cell 2⟩
theorem zte {w:World}{g:Nat}{t:TypeId}{a b c d e f i:Value}(h:Blk w g t #[a,b,c,d,e,f,i]):w.cell? ⟨g,0,none⟩=some a/\w.cell? ⟨g,1,none⟩=some b/\w.cell? ⟨g,2,none⟩=some c/\w.cell? ⟨g,3,none⟩=some d/\w.cell? ⟨g,4,none⟩=some e/\w.cell? ⟨g,5,none⟩=some f/\w.cell? ⟨g,6,none⟩=some i:=⟨h.cell 0,h.cell 1,h.cell 2,h.cell 3,h.cell 4,h.cell 5,h.cell 6⟩
structure zsL (st nm:List ByteArray) (l:List Eq1) (j:Nat):Prop where
 once:∀ (m:Nat) (q:Eq1),m<j->l[m]? = some q->q.s ∉ (l.take m).map Eq1.s
 state:∀ (m:Nat) (q:Eq1),m<j->l[m]? = some q->q.s∈st
 known:∀ (m:Nat) (q:Eq1),m<j->l[m]? = some q->∀z∈q.e.vars,z∈nm
theorem zsL.zero (st nm:List ByteArray) (l:List Eq1):zsL st nm l 0:=⟨fun m q h=>absurd h (by omega),fun m q h=>absurd h (by omega),fun m q h=>absurd h (by omega)⟩
theorem zsL.next {st nm:List ByteArray}{l:List Eq1}{j:Nat}{q:Eq1}(h:zsL st nm l j) (hq:l[j]? = some q) (hG:q.s∈st/\q.s ∉ (l.take j).map Eq1.s/\∀z∈q.e.vars,z∈nm):zsL st nm l (j+1):=by
 have key:∀ (m:Nat) (q':Eq1),m<j+1->l[m]? = some q'->m<j\/(m=j/\q' = q):=fun m q' hm hq'=>by
  by_cases hmj:m<j
  ·exact .inl hmj
  ·obtain rfl:m=j:=by omega
   rw [hq] at hq';injection hq' with hq'
   exact .inr ⟨rfl,hq'.symm⟩
 refine ⟨fun m q' hm hq'=>?_,fun m q' hm hq'=>?_,fun m q' hm hq'=>?_⟩
 ·rcases key m q' hm hq' with h' | ⟨rfl,rfl⟩
  ·exact h.once m q' h' hq'
  ·exact hG.2.1
 ·rcases key m q' hm hq' with h' | ⟨rfl,rfl⟩
  ·exact h.state m q' h' hq'
  ·exact hG.1
 ·rcases key m q' hm hq' with h' | ⟨rfl,rfl⟩
  ·exact h.known m q' h' hq'
  ·exact hG.2.2
theorem zsL.all {st nm:List ByteArray}{l:List Eq1}{j:Nat}(h:zsL st nm l j) (hj:l.length<=j):zrm st nm l:=by
 have hi:∀ (m:Nat) (q:Eq1),l[m]? = some q->m<j:=fun m q hq=>by have:=(Yb.1 hq).1;omega
 refine ⟨zsm fun m x hx=>?_,fun q hq=>?_,fun q hq=>?_⟩
 ·rw [List.getElem?_map] at hx
  cases hq:l[m]? with
  | none=>rw [hq] at hx;cases hx
  | some q=>
   rw [hq] at hx;injection hx with hx
   subst hx;rw [<- List.map_take];exact h.once m q (hi m q hq) hq
 ·obtain ⟨m,hm⟩:=List.mem_iff_getElem?.1 hq
  exact h.state m q (hi m q hm) hm
 ·obtain ⟨m,hm⟩:=List.mem_iff_getElem?.1 hq
  exact h.known m q (hi m q hm) hm
theorem RQ.open {F:Nat->Prop}{d:Nat}{W:World}{us:List Value}{q:Eq1}(h:RQ F d W us q):∃A m c,us=[.string q.s,.int .i64 q.e.k,.int .i64 q.e.a,.int .i64 q.e.b,.string q.e.s,.int .i64 q.e.n,.slice A m c]/\RX F d W [.int .i64 q.e.k,.int .i64 q.e.a,.int .i64 q.e.b,.string q.e.s,.int .i64 q.e.n,.slice A m c] q.e:=by
 obtain ⟨vs,rfl,hx⟩:=h;obtain ⟨A,m,c,d',rfl,rfl,h1,h2⟩:=hx.open;exact ⟨A,m,c,rfl,hx⟩
theorem REd.open {F:Nat->Prop}{d:Nat}{W:World}{us:List Value}{x:Ed}(h:REd F d W us x):∃A m c B n q,us=[.int .i64 x.g.k,.int .i64 x.g.a,.int .i64 x.g.b,.string x.g.s,.int .i64 x.g.n,.slice A m c,.int .i64 x.dir,.string x.to,.slice B n q]/\RX F d W [.int .i64 x.g.k,.int .i64 x.g.a,.int .i64 x.g.b,.string x.g.s,.int .i64 x.g.n,.slice A m c] x.g/\Sl 7 (RQ F d) W B n q x.rs:=by
 obtain ⟨vs,B,n,q,rfl,hx,hs⟩:=h;obtain ⟨A,m,c,d',rfl,rfl,h1,h2⟩:=hx.open;exact ⟨A,m,c,B,n,q,rfl,hx,hs⟩
theorem zrQ {w:World}{g:Nat}{t:TypeId}{a b c d e f i j k:Value}(h:Blk w g t #[a,b,c,d,e,f,i,j,k]):w.cell? ⟨g,0,none⟩=some a/\w.cell? ⟨g,1,none⟩=some b/\w.cell? ⟨g,2,none⟩=some c/\w.cell? ⟨g,3,none⟩=some d/\w.cell? ⟨g,4,none⟩=some e/\w.cell? ⟨g,5,none⟩=some f/\w.cell? ⟨g,6,none⟩=some i/\w.cell? ⟨g,7,none⟩=some j/\w.cell? ⟨g,8,none⟩=some k:=⟨h.cell 0,h.cell 1,h.cell 2,h.cell 3,h.cell 4,h.cell 5,h.cell 6,h.cell 7,h.cell 8⟩
def EdJ (st nm md:List ByteArray) (l:List Ed) (j:Nat):Prop:=∀ (m:Nat) (y:Ed),m<j->l[m]? = some y->y.to∈md/\(∀z∈y.g.vars,z∈nm)/\zrm st nm y.rs
theorem EdJ.next {st nm md:List ByteArray}{l:List Ed}{j:Nat}{y:Ed}(h:EdJ st nm md l j) (hy:l[j]? = some y) (hG:y.to∈md/\(∀z∈y.g.vars,z∈nm)/\zrm st nm y.rs):EdJ st nm md l (j+1):=fun m y' hm hy'=>by
 by_cases hmj:m<j
 ·exact h m y' hmj hy'
 ·obtain rfl:m=j:=by omega
  rw [hy] at hy';injection hy' with hy'
  exact hy' ▸ hG
theorem ztt (F:Nat->Prop) (d:Nat) (us:List Value) (x:Md) (w:World) (X:Nat) (st nm md:List ByteArray) (h:RMd F d w us x) (hx:mdP x=true) (hF:∀b,F b->b<w.heap.size) (hL:RLk w X st nm md) :
  Calls Tryz.prog 87 #[.pointer (some ⟨X,0,none⟩),.agg us.toArray] w (zwS (ztF st nm md x) w):=by
 obtain ⟨A,n,c,B,m,q,rfl,hS1,hS2⟩:=h;unfold mdP at hx;simp only [Yi,Xa,List.all_eq_true] at hx;obtain ⟨⟨⟨⟨_,hfl⟩,hel⟩,hfa⟩,hea⟩:=hx;obtain ⟨W0,e0,hb0,k0⟩:=al1 w #[.string x.s,.slice A n c,.slice B m q] 60;obtain ⟨q0,q1,q2⟩:=zrc k0;have hn:=hS1.cap;have hnm:=hS1.max;have hln:=hS1.len;have hm:=hS2.cap;have hmm:=hS2.max;have hlm:=hS2.len;have HS1:=Zh hS1;have HS2:=Zh hS2;have HF:=Zh hF;have HLK:=Zh hL;have HFA:=Zh hfa;have HEA:=Zh hea;have HB0:=Zh hb0;have K0:=Zh k0;clear hS1 hS2 hF hL hfa hea hb0 k0;go_enter Tryz.func87,Tryz.ntmps87
 go_wp2_with fail
 clear q0 q1 q2 e0
 go_loopw [4,17] (fun v i wr=>∃j:Nat,j<=n/\i=.int .i64 j/\Hid (zqq wr W0.heap.size v ((x.flow.map Eq1.s).take j))/\Hid (Below W0.heap.size W0 wr)/\Hid (zsL st nm x.flow j)) (fun _ i _=>n - (intOf i).toNat)
 case atStart=>exact ⟨0,Nat.zero_le _,rfl,zqq.nil _ _,Yp _ _,zsL.zero _ _ _⟩
 case round=>
  obtain ⟨j,hj,rfl,HO,HB1,HG⟩:=hrel;have HB:=Zh (zAA HB0.out HB1.out);by_cases hlt:j<n
  ·obtain ⟨b,off,y,vs,rfl,hbl,hy,hl7,hRy,hc⟩:=HS1.out.get hlt
   have hRr:=zqm F d _ _ _ _ hRy HB.out;obtain ⟨A1,m1,c1,rfl,hX⟩:=hRr.open;have q0:=(HB.out.cell (p:=⟨b,off+j*7,none⟩) hbl).trans (hc 0 _ rfl);have q1:=(HB.out.cell (p:=⟨b,off+j*7+1,none⟩) hbl).trans (hc 1 _ rfl);have q2:=(HB.out.cell (p:=⟨b,off+j*7+2,none⟩) hbl).trans (hc 2 _ rfl);have q3:=(HB.out.cell (p:=⟨b,off+j*7+3,none⟩) hbl).trans (hc 3 _ rfl);have q4:=(HB.out.cell (p:=⟨b,off+j*7+4,none⟩) hbl).trans (hc 4 _ rfl);have q5:=(HB.out.cell (p:=⟨b,off+j*7+5,none⟩) hbl).trans (hc 5 _ rfl);have q6:=(HB.out.cell (p:=⟨b,off+j*7+6,none⟩) hbl).trans (hc 6 _ rfl);obtain ⟨W1,e1,hb1,k1⟩:=al1 wr #[.string y.s,.int .i64 y.e.k,.int .i64 y.e.a,.int .i64 y.e.b,.string y.e.s,.int .i64 y.e.n,.slice A1 m1 c1] 95;obtain ⟨r0,r1,r2,r3,r4,r5,r6⟩:=zte k1;have hlj:((x.flow.map Eq1.s).take j).length=j:=by rw [Yr,Xe];omega
   obtain ⟨Av,cv,hv,hSv⟩:=HO.out.sl;rw [hlj] at hv hSv;subst hv;have hyv:=HFA.out y (Yk hy);unfold eqP at hyv;rw [Yi] at hyv;have HGi:=Zh (zr2 F d _ y.e y.s Av _ cv _ W1 X st nm md (zqX _ _ _ _ _ _ hX hb1) hyv.2 (fun b hb=>Yh (HF.out b hb) (Yq HB.out.size hb1.size)) (HLK.out.next (zAA HB.out hb1)) (hSv.next zqW hb1));have HY:=Zh hy;clear hRy hc hRr hX hyv hy hSv;have K1:=Zh k1;have HB2:=Zh hb1;clear k1 hb1;go_wp2_with fail
   clear q0 q1 q2 q3 q4 q5 q6 r0 r1 r2 r3 r4 r5 r6 e1;refine HGi.out.mono ?_;rintro e w2 ⟨hb2,h⟩
   have hb12:=zAA HB2.out hb2;have hbw:=zAA HB.out hb12;rcases h with ⟨c0,s0,rfl⟩ | ⟨rfl,hGq⟩
   ·exact ⟨rfl,hbw,.inl ⟨_,_,rfl⟩⟩
   have HG2:=Zh (HG.out.next HY.out (by rw [List.map_take];exact hGq));obtain ⟨r0,r1,r2,r3,r4,r5,r6⟩:=zte (K1.out.below hb2 K1.out.lt);have hba:=zAE w2 (.cells #[.string y.s] 9);have HOa:=Zh ((HO.out.below hb12).below hba);have HBW:=Zh hbw;have HBW1:=Zh (HB1.out.trans (hb12.mono (by have:=HB1.out.size;omega)));have HBA:=Zh hba;have hsa:w2.heap.size<=(w2.alloc (.cells #[.string y.s] 9)).heap.size:=hba.size;have hsw:=hbw.size;have hcn:(w2.alloc (.cells #[.string y.s] 9)).cell? ⟨w2.heap.size,0,none⟩=some (.string y.s):=(Blk.new w2 9 #[.string y.s]).cell 0;clear hGq hb2 hb12 hbw hba HGi
   go_wp2_with (at_builtin;go_loud (refine zqa rfl _ _ rfl W0.heap.size (.slice Av j cv) _ rfl HOa.out ⟨w2.heap.size,0,none⟩ 1 y.s rfl hcn (by rw [hlj];omega) (by have:=HBW1.out.size;omega) ?_))
   intro A' c' w3 hO3 hb3;have hs3:=hb3.size;have HO3:=Zh hO3;have HB3:=Zh hb3;clear hO3 hb3;go_wp2_with fail
   refine ⟨⟨j+1,by omega,by go_num,?_,(HBW1.out.trans (HBA.out.mono (by have:=HBW1.out.size;omega))).trans HB3.out,HG2.out⟩,by simp [intOf];omega⟩;have e:(x.flow.map Eq1.s).take (j+1)=(x.flow.map Eq1.s).take j++[y.s]:=by rw [List.take_add_one,List.getElem?_map,HY.out];rfl
   rw [e];exact HO3.out
  ·obtain rfl:j=n:=by omega
   have HGF:=Zh (HG.out.all (by omega));obtain ⟨Av,cv,hv,hSv⟩:=HO.out.sl;have htk:(x.flow.map Eq1.s).take j=x.flow.map Eq1.s:=Xd (by rw [Xe];omega);rw [htk,Xe,hln] at hv hSv;subst hv;obtain ⟨A1,n1,c1,A2,n2,c2,A3,n3,c3,kX,s1,s2,s3⟩:=HLK.out.next HB.out;have p0:wr.cell? ⟨X,0,none⟩=some (.slice A1 n1 c1):=kX.cell 0;have KX0:=Zh kX;have H1:=Zh s1;have HL1:=Zh s1.len;have H3:=Zh s3;have HV:=Zh hSv;have hn1:=s1.cap;have hm1:=s1.max;clear kX s1 s2 s3 hSv htk;go_wp2_with fail
   clear p0
   go_loopw [39] (fun i wb=>∃k:Nat,k<=n1/\i=.int .i64 k/\Hid (∀ (m:Nat) (s:ByteArray),m<k->st[m]? = some s->s∈x.flow.map Eq1.s)/\wb=wr) (fun i _=>n1 - (intOf i).toNat)
   case atStart=>exact ⟨0,Nat.zero_le _,rfl,fun m s hm=>absurd hm (by omega),rfl⟩
   case round=>
    obtain ⟨k,hk,rfl,HZ,hwr⟩:=hrel;obtain rfl:=hwr.symm;by_cases hlt2:k<n1
    ·obtain ⟨b,off,z,vs,rfl,hbl,hz,hkl,hR,hc⟩:=H1.out.get hlt2
     unfold zql at hR;subst hR;have q0:=hc 0 _ rfl;rw [Nat.mul_one,Nat.add_zero] at q0;have HX:=Zh hz;have HC:=Zh (zqd _ _ _ _ z wr HV.out);clear hz hc hkl;go_wp2_with fail
     refine HC.out.mono ?_;rintro e w' ⟨t,rfl,ht,hw'⟩
     obtain rfl:=hw'.symm;have HI:=Zh ht;have HNd:=Zh (zqo t 3 z wr);clear ht;go_wp2_with fail
     refine HNd.out.mono ?_;rintro e w' ⟨h,hw'⟩
     obtain rfl:=hw'.symm;rcases h with ⟨ht,rfl⟩ | ⟨ht,rfl⟩
     ·exact ⟨rfl,HB.out,.inl ⟨_,_,rfl⟩⟩
     ·go_wp2_with fail
      refine ⟨⟨k+1,by omega,by go_num,fun m y hm hy=>?_,trivial⟩,by simp [intOf];omega⟩;by_cases hmk:m<k
      ·exact HZ.out m y hmk hy
      ·obtain rfl:m=k:=by omega
       rw [HX.out] at hy;injection hy with hy
       rw [<- hy];exact HI.out.1 ht
    ·have HAL:Hid (∀s∈st,s∈x.flow.map Eq1.s):=fun s hs=>by
      obtain ⟨m,hm1⟩:=List.mem_iff_getElem?.1 hs;exact HZ.out m s (by
       have:=(Yb.1 hm1).1;have:=HL1.out;omega) hm1
     have q2:wr.cell? ⟨w.heap.size,2,none⟩=some (.slice B m q):=(K0.out.below HB1.out K0.out.lt).cell 2;have HBw:=Zh HB1.out;clear HZ H1 HL1;go_wp2_with fail
     clear q2
     go_loopw [52] (fun i we=>∃k:Nat,k<=m/\i=.int .i64 k/\Hid (Below W0.heap.size W0 we)/\Hid (EdJ st nm md x.edges k)) (fun i _=>m - (intOf i).toNat)
     case atStart=>exact ⟨0,Nat.zero_le _,rfl,HBw.out,fun m y hm=>absurd hm (by omega)⟩
     case round=>
      obtain ⟨k,hk,rfl,HBe,HE⟩:=hrel;have HBE:=Zh (zAA HB0.out HBe.out);by_cases hlt3:k<m
      ·obtain ⟨b,off,y,vs,rfl,hbl,hy,hl9,hRy,hc⟩:=HS2.out.get hlt3
       obtain ⟨Ag,mg,cg,Ar,nr,cr,rfl,hX,hSr⟩:=(zqw F d _ _ _ _ hRy HBE.out).open;have q0:=(HBE.out.cell (p:=⟨b,off+k*9,none⟩) hbl).trans (hc 0 _ rfl);have q1:=(HBE.out.cell (p:=⟨b,off+k*9+1,none⟩) hbl).trans (hc 1 _ rfl);have q2:=(HBE.out.cell (p:=⟨b,off+k*9+2,none⟩) hbl).trans (hc 2 _ rfl);have q3:=(HBE.out.cell (p:=⟨b,off+k*9+3,none⟩) hbl).trans (hc 3 _ rfl);have q4:=(HBE.out.cell (p:=⟨b,off+k*9+4,none⟩) hbl).trans (hc 4 _ rfl);have q5:=(HBE.out.cell (p:=⟨b,off+k*9+5,none⟩) hbl).trans (hc 5 _ rfl);have q6:=(HBE.out.cell (p:=⟨b,off+k*9+6,none⟩) hbl).trans (hc 6 _ rfl);have q7:=(HBE.out.cell (p:=⟨b,off+k*9+7,none⟩) hbl).trans (hc 7 _ rfl);have q8:=(HBE.out.cell (p:=⟨b,off+k*9+8,none⟩) hbl).trans (hc 8 _ rfl);obtain ⟨W1,e1,hb1,k1⟩:=al1 wr #[.int .i64 y.g.k,.int .i64 y.g.a,.int .i64 y.g.b,.string y.g.s,.int .i64 y.g.n,.slice Ag mg cg,.int .i64 y.dir,.string y.to,.slice Ar nr cr] 89;obtain ⟨r0,r1,r2,r3,r4,r5,r6,r7,r8⟩:=zrQ k1;clear hRy hc;have hyv:=HEA.out y (Yk hy);unfold edP at hyv;simp only [Yi,Xa,List.all_eq_true] at hyv;obtain ⟨⟨⟨⟨hgx,_⟩,_⟩,hrl⟩,hra⟩:=hyv;have K1:=Zh k1;have HB1':=Zh hb1;have HBW:=Zh (zAA HBE.out hb1);have HX:=Zh (zqX F d _ _ _ _ hX hb1);have HSR:=Zh (hSr.next (zqm F d) hb1);have HY:=Zh hy;have HRA:=Zh hra;have hs1:=hb1.size;obtain ⟨A1,n1,c1,A2,n2,c2,A3,n3,c3,kX,s1,s2,s3⟩:=HLK.out.next HBW.out;have p2:W1.cell? ⟨X,2,none⟩=some (.slice A3 n3 c3):=kX.cell 2;clear hb1 k1 hX hSr hy hra kX s1 s2;go_wp2_with fail
       clear q0 q1 q2 q3 q4 q5 q6 q7 q8 e1;refine wp_region_held_drew (S:=fun W=>W.cell? ⟨X,2,none⟩=some (.slice A3 n3 c3)/\W.cell? ⟨wr.heap.size,7,none⟩=some (.string y.to)) (by kernel_rfl) ⟨p2,r7⟩ (fun hH=>?_);have H3d:=Zh (s3.next zqW (zAR (Yp W1.heap.size W1) 1));refine tkh 0 hH ?_;refine tkh 1 hH ?_;refine tkh 2 hH ?_;refine tkh 3 hH ?_;refine tkh 4 hH ?_;refine tkh 5 hH ?_;refine tkh 7 hH ?_;refine tkh 8 hH ?_;simp only [Act.put,sT,sZ,sS];refine rdh 6 (fun K hK=>?_)
       go_simp
       refine (zqd _ _ _ _ y.to _ H3d.out).mono ?_;rintro e w' ⟨t,rfl,ht,hw'⟩
       obtain rfl:=hw'.symm;have HI:=Zh ht;have HNd:=Zh (zqo t 7 y.to W1.drew);clear ht;go_wp2_with fail
       refine hK.out _ _ ⟨p2,r7⟩ (fun hH=>?_);clear hK K;refine rdh 9 (fun K hK=>?_)
       go_simp
       refine HNd.out.mono ?_;rintro e w' ⟨h,hw'⟩
       obtain rfl:=hw'.symm;rcases h with ⟨ht,rfl⟩ | ⟨ht,rfl⟩
       ·exact ⟨rfl,zAR HBW.out 1,.inl ⟨_,_,rfl⟩⟩
       have HTO:=Zh (HI.out.1 ht);clear ht HI HNd;go_wp2_with fail
       refine hK.out _ _ ⟨p2,r7⟩ (fun hH=>?_);clear hK K;refine wpAnyH_done (by kernel_rfl) ?_ _;have hbd:=zAR (Yp W1.heap.size W1) 1;have HBD:=Zh (show Below W1.heap.size W1 W1.drew from hbd);have HBV:=Zh (zAA HBW.out HBD.out);have hsd:W1.drew.heap.size=W1.heap.size:=rfl;obtain ⟨r0,r1,r2,r3,r4,r5,r6,r7,r8⟩:=zrQ (K1.out.below HBD.out K1.out.lt);have HKn:=Zh (zr7 F d _ y.g W1.drew X st nm md (zqX F d _ _ _ _ HX.out HBD.out) hgx (fun b hb=>Yh (HF.out b hb) HBV.out.size) (HLK.out.next HBV.out));go_wp2_with fail
       refine HKn.out.mono ?_;rintro e w3 ⟨hb3,h⟩
       have hbv:=zAA HBV.out hb3;rcases h with ⟨c0,s0,rfl⟩ | ⟨rfl,hGk⟩
       ·exact ⟨rfl,hbv,.inl ⟨_,_,rfl⟩⟩
       have HGK:=Zh hGk;have HB3:=Zh hbv;have HB13:=Zh (zAA HBD.out hb3);clear r0 r1 r2 r3 r4 r5 r6 r7 r8;obtain ⟨r0,r1,r2,r3,r4,r5,r6,r7,r8⟩:=zrQ (K1.out.below HB13.out K1.out.lt);have hnr:=HSR.out.cap;have hmr:=HSR.out.max;have hlr:=HSR.out.len;clear hGk hb3 hbv hbd HKn H3 H3d;go_wp2_with fail
       clear r0 r1 r2 r3 r4 r5 r6 r7 r8
       go_loopw [11,73] (fun v i wt=>∃j:Nat,j<=nr/\i=.int .i64 j/\Hid (zqq wt W1.heap.size v ((y.rs.map Eq1.s).take j))/\Hid (Below W1.heap.size W1 wt)/\Hid (zsL st nm y.rs j)) (fun _ i _=>nr - (intOf i).toNat)
       case atStart=>exact ⟨0,Nat.zero_le _,rfl,zqq.nil _ _,HB13.out,zsL.zero _ _ _⟩
       case round=>
        obtain ⟨j2,hj2,rfl,HO,HBt,HG⟩:=hrel;have HB:=Zh (zAA HBW.out HBt.out);by_cases hlt4:j2<nr
        ·obtain ⟨b2,off2,z,vs,rfl,hbl2,hz,hl7,hRz,hc⟩:=HSR.out.get hlt4
         have hRr:=zqm F d _ _ _ _ hRz HBt.out;obtain ⟨A5,m5,c5,rfl,hX⟩:=hRr.open;have q0:=(HBt.out.cell (p:=⟨b2,off2+j2*7,none⟩) hbl2).trans (hc 0 _ rfl);have q1:=(HBt.out.cell (p:=⟨b2,off2+j2*7+1,none⟩) hbl2).trans (hc 1 _ rfl);have q2:=(HBt.out.cell (p:=⟨b2,off2+j2*7+2,none⟩) hbl2).trans (hc 2 _ rfl);have q3:=(HBt.out.cell (p:=⟨b2,off2+j2*7+3,none⟩) hbl2).trans (hc 3 _ rfl);have q4:=(HBt.out.cell (p:=⟨b2,off2+j2*7+4,none⟩) hbl2).trans (hc 4 _ rfl);have q5:=(HBt.out.cell (p:=⟨b2,off2+j2*7+5,none⟩) hbl2).trans (hc 5 _ rfl);have q6:=(HBt.out.cell (p:=⟨b2,off2+j2*7+6,none⟩) hbl2).trans (hc 6 _ rfl);obtain ⟨W2,e2,hb1,k1⟩:=al1 wr #[.string z.s,.int .i64 z.e.k,.int .i64 z.e.a,.int .i64 z.e.b,.string z.e.s,.int .i64 z.e.n,.slice A5 m5 c5] 86;obtain ⟨r0,r1,r2,r3,r4,r5,r6⟩:=zte k1;have hlj:((y.rs.map Eq1.s).take j2).length=j2:=by rw [Yr,Xe];omega
         obtain ⟨Av,cv,hv,hSv⟩:=HO.out.sl;rw [hlj] at hv hSv;subst hv;have hyv:=HRA.out z (Yk hz);unfold eqP at hyv;rw [Yi] at hyv;have HGi:=Zh (zr2 F d _ z.e z.s Av _ cv _ W2 X st nm md (zqX _ _ _ _ _ _ hX hb1) hyv.2 (fun b hb=>Yh (HF.out b hb) (Yq HB.out.size hb1.size)) (HLK.out.next (zAA HB.out hb1)) (hSv.next zqW hb1));have HZ:=Zh hz;clear hRz hc hRr hX hyv hz hSv;have K2:=Zh k1;have HB2:=Zh hb1;clear k1 hb1;go_wp2_with fail
         clear q0 q1 q2 q3 q4 q5 q6 r0 r1 r2 r3 r4 r5 r6 e2;refine HGi.out.mono ?_;rintro e w2 ⟨hb2,h⟩
         have hb12:=zAA HB2.out hb2;have hbw:=zAA HB.out hb12;rcases h with ⟨c0,s0,rfl⟩ | ⟨rfl,hGq⟩
         ·exact ⟨rfl,hbw,.inl ⟨_,_,rfl⟩⟩
         have HG2:=Zh (HG.out.next HZ.out (by rw [List.map_take];exact hGq));obtain ⟨r0,r1,r2,r3,r4,r5,r6⟩:=zte (K2.out.below hb2 K2.out.lt);have hba:=zAE w2 (.cells #[.string z.s] 9);have HOa:=Zh ((HO.out.below hb12).below hba);have HBW1:=Zh (HBt.out.trans (hb12.mono (by have:=HBt.out.size;omega)));have HBA:=Zh hba;have hsa:w2.heap.size<=(w2.alloc (.cells #[.string z.s] 9)).heap.size:=hba.size;have hsw:=hbw.size;have hcn:(w2.alloc (.cells #[.string z.s] 9)).cell? ⟨w2.heap.size,0,none⟩=some (.string z.s):=(Blk.new w2 9 #[.string z.s]).cell 0;clear hGq hb2 hb12 hbw hba HGi
         go_wp2_with (at_builtin;go_loud (refine zqa rfl _ _ rfl W1.heap.size (.slice Av j2 cv) _ rfl HOa.out ⟨w2.heap.size,0,none⟩ 1 z.s rfl hcn (by rw [hlj];omega) (by have:=HBW1.out.size;omega) ?_))
         intro A' c' w3 hO3 hb3;have hs3:=hb3.size;have HO3:=Zh hO3;have HB3:=Zh hb3;clear hO3 hb3;go_wp2_with fail
         refine ⟨⟨j2+1,by omega,by go_num,?_,(HBW1.out.trans (HBA.out.mono (by have:=HBW1.out.size;omega))).trans HB3.out,HG2.out⟩,by simp [intOf];omega⟩;have e:(y.rs.map Eq1.s).take (j2+1)=(y.rs.map Eq1.s).take j2++[z.s]:=by rw [List.take_add_one,List.getElem?_map,HZ.out];rfl
         rw [e];exact HO3.out
        ·have HGR:=Zh (HG.out.all (by omega))
         have HEN:=Zh (HE.out.next HY.out ⟨HTO.out,HGK.out,HGR.out⟩);have hBn:=(HBe.out.trans (HB1'.out.mono (by have:=HBe.out.size;omega))).trans (HBt.out.mono (by have:=HBe.out.size;omega));have HBN:=Zh hBn;clear hBn;go_wp2_with fail
         exact ⟨⟨k+1,by omega,by go_num,HBN.out,HEN.out⟩,by simp [intOf];omega⟩
      ·go_wp2_with fail
       go_end0
       have hE:∀y∈x.edges,y.to∈md/\(∀z∈y.g.vars,z∈nm)/\zrm st nm y.rs:=fun y hy=>by
        obtain ⟨m',hm'⟩:=List.mem_iff_getElem?.1 hy;exact HE.out m' y (by have:=(Yb.1 hm').1;omega) hm'
       exact ⟨HBE.out,.inr ⟨rfl,HGF.out,HAL.out,fun y hy=>(hE y hy).1,fun y hy=>(hE y hy).2.1,fun y hy=>(hE y hy).2.2⟩⟩
theorem zq2 {w:World}{g:Nat}{t:TypeId}{a b c d e:Value}(h:Blk w g t #[a,b,c,d,e]):w.cell? ⟨g,0,none⟩=some a/\w.cell? ⟨g,1,none⟩=some b/\w.cell? ⟨g,2,none⟩=some c/\w.cell? ⟨g,3,none⟩=some d/\w.cell? ⟨g,4,none⟩=some e:=⟨h.cell 0,h.cell 1,h.cell 2,h.cell 3,h.cell 4⟩
theorem zq3 (s:ByteArray) (h:zqn s=true) (w:World):Calls Tryz.prog 203 #[.string s] w (zBW true w):=(zsA s h w).mono fun e w' ⟨h1,h2⟩=>⟨h1,by rw [h2];exact Yp _ _⟩
theorem zrw (us:List Value) (x:Dc) (w:World) (h:RDc w us x) (hx:dcP x=true):Calls Tryz.prog 144 #[.agg us.toArray] w (zBW true w):=by
 unfold RDc at h;subst h;unfold dcP at hx;simp only [Yi] at hx;have HN:=Zh (zq3 x.s hx.1);have HA:=Zh (zqj x.a x.b hx.2.1);have HC:=Zh (zqj x.c x.d hx.2.2);clear hx;obtain ⟨W0,e0,hb0,k0⟩:=al1 w #[.string x.s,.int .i64 x.a,.int .i64 x.b,.int .i64 x.c,.int .i64 x.d] 94;obtain ⟨q0,q1,q2,q3,q4⟩:=zq2 k0;have K0:=Zh k0;have HB0:=Zh hb0;clear k0 hb0;go_enter Tryz.func144,Tryz.ntmps144
 go_wp2_with fail
 clear e0;clear q0 q1 q2 q3 q4;refine (HN.out _).mono ?_;rintro e w' ⟨rfl,hb'⟩
 replace K0:=Zh (K0.out.below hb' K0.out.lt);replace HB0:=Zh (zAA HB0.out hb');clear hb';obtain ⟨q0,q1,q2,q3,q4⟩:=zq2 K0.out;go_wp2_with fail
 clear q0 q1 q2 q3 q4;refine (HA.out _).mono ?_;rintro e w' ⟨rfl,hb'⟩
 replace K0:=Zh (K0.out.below hb' K0.out.lt);replace HB0:=Zh (zAA HB0.out hb');clear hb';obtain ⟨q0,q1,q2,q3,q4⟩:=zq2 K0.out;go_wp2_with fail
 clear q0 q1 q2 q3 q4;refine (HC.out _).mono ?_;rintro e w' ⟨rfl,hb'⟩
 replace K0:=Zh (K0.out.below hb' K0.out.lt);replace HB0:=Zh (zAA HB0.out hb');clear hb';obtain ⟨q0,q1,q2,q3,q4⟩:=zq2 K0.out;go_wp2_with fail
 go_ret;exact ⟨rfl,HB0.out⟩
theorem zuT (F:Nat->Prop) (d:Nat) (us:List Value) (x:Eq1) (w:World) (h:RQ F d w us x) (hx:eqP x=true) (hF:∀b,F b->b<w.heap.size):Calls Tryz.prog 207 #[.agg us.toArray] w (zBW true w):=by
 obtain ⟨A,m,c,rfl,hX⟩:=h.open;unfold eqP at hx;rw [Yi] at hx;have HN:=Zh (zq3 x.s hx.1);have HV:=Zh (fun W (hb:Below w.heap.size w W)=>zq0 F d _ x.e W (zqX _ _ _ _ _ _ hX hb) hx.2 (fun b hb'=>Yh (hF b hb') hb.size));clear hx h;obtain ⟨W0,e0,hb0,k0⟩:=al1 w #[.string x.s,.int .i64 x.e.k,.int .i64 x.e.a,.int .i64 x.e.b,.string x.e.s,.int .i64 x.e.n,.slice A m c] 95;obtain ⟨q0,q1,q2,q3,q4,q5,q6⟩:=zte k0;have K0:=Zh k0;have HB0:=Zh hb0;clear k0 hb0 hX;go_enter Tryz.func207,Tryz.ntmps207
 go_wp2_with fail
 clear e0;clear q0 q1 q2 q3 q4 q5 q6;refine (HN.out _).mono ?_;rintro e w' ⟨rfl,hb'⟩
 replace K0:=Zh (K0.out.below hb' K0.out.lt);replace HB0:=Zh (zAA HB0.out hb');clear hb';obtain ⟨q0,q1,q2,q3,q4,q5,q6⟩:=zte K0.out;go_wp2_with fail
 clear q0 q1 q2 q3 q4 q5 q6;refine (HV.out _ HB0.out).mono ?_;rintro e w' ⟨rfl,hb'⟩
 replace K0:=Zh (K0.out.below hb' K0.out.lt);replace HB0:=Zh (zAA HB0.out hb');clear hb';obtain ⟨q0,q1,q2,q3,q4,q5,q6⟩:=zte K0.out;go_wp2_with fail
 go_ret;exact ⟨rfl,HB0.out⟩
theorem zvM (F:Nat->Prop) (d:Nat) (us:List Value) (x:Eq1) (w:World) (h:RQ F d w us x) (hx:eqP x=true) (hF:∀b,F b->b<w.heap.size):Calls Tryz.prog 211 #[.agg us.toArray] w (zBW true w):=by
 obtain ⟨A,m,c,rfl,hX⟩:=h.open;unfold eqP at hx;rw [Yi] at hx;have HN:=Zh (zq3 x.s hx.1);have HV:=Zh (fun W (hb:Below w.heap.size w W)=>zq0 F d _ x.e W (zqX _ _ _ _ _ _ hX hb) hx.2 (fun b hb'=>Yh (hF b hb') hb.size));clear hx h;obtain ⟨W0,e0,hb0,k0⟩:=al1 w #[.string x.s,.int .i64 x.e.k,.int .i64 x.e.a,.int .i64 x.e.b,.string x.e.s,.int .i64 x.e.n,.slice A m c] 86;obtain ⟨q0,q1,q2,q3,q4,q5,q6⟩:=zte k0;have K0:=Zh k0;have HB0:=Zh hb0;clear k0 hb0 hX;go_enter Tryz.func211,Tryz.ntmps211
 go_wp2_with fail
 clear e0;clear q0 q1 q2 q3 q4 q5 q6;refine (HN.out _).mono ?_;rintro e w' ⟨rfl,hb'⟩
 replace K0:=Zh (K0.out.below hb' K0.out.lt);replace HB0:=Zh (zAA HB0.out hb');clear hb';obtain ⟨q0,q1,q2,q3,q4,q5,q6⟩:=zte K0.out;go_wp2_with fail
 clear q0 q1 q2 q3 q4 q5 q6;refine (HV.out _ HB0.out).mono ?_;rintro e w' ⟨rfl,hb'⟩
 replace K0:=Zh (K0.out.below hb' K0.out.lt);replace HB0:=Zh (zAA HB0.out hb');clear hb';obtain ⟨q0,q1,q2,q3,q4,q5,q6⟩:=zte K0.out;go_wp2_with fail
 go_ret;exact ⟨rfl,HB0.out⟩
theorem zuS (F:Nat->Prop) (d:Nat) (us:List Value) (x:Ed) (w:World) (h:REd F d w us x) (hx:edP x=true) (hF:∀b,F b->b<w.heap.size):Calls Tryz.prog 209 #[.agg us.toArray] w (zBW true w):=by
 obtain ⟨A,m,c,B,n,q,rfl,hX,hS⟩:=h.open;unfold edP at hx;simp only [Yi,Xa,Bool.or_eq_true,List.all_eq_true] at hx;obtain ⟨⟨⟨⟨h1,h2⟩,h3⟩,h4⟩,h5⟩:=hx;have HN:=Zh (zq3 x.to h3);have HV:=Zh (fun W (hb:Below w.heap.size w W)=>zq0 F d _ x.g W (zqX _ _ _ _ _ _ hX hb) h1 (fun b hb'=>Yh (hF b hb') hb.size));have HR:=Zh (fun W (hb:Below w.heap.size w W)=>zwa (zqm F d) 211 #[] W (hS.next (zqm F d) hb) (zDJ Tryz.func211 (by kernel_rfl) rfl) (fun W' us y hb' hy hR=>by
  rw [Array.append_empty];exact zvM F d us y W' hR (h5 y hy) (fun b hb2=>Yh (hF b hb2) (Yq hb.size hb'.size))))
 have hn:=hS.cap;have hm:=hS.max;have hl:=hS.len;have hl4:n<=4:=by omega
 have hdir:x.dir=1\/x.dir=2:=h2;clear h1 h2 h3 h4 h5 h hl;obtain ⟨W0,e0,hb0,k0⟩:=al1 w #[.int .i64 x.g.k,.int .i64 x.g.a,.int .i64 x.g.b,.string x.g.s,.int .i64 x.g.n,.slice A m c,.int .i64 x.dir,.string x.to,.slice B n q] 89;obtain ⟨q0,q1,q2,q3,q4,q5,q6,q7,q8⟩:=zrQ k0;have K0:=Zh k0;have HB0:=Zh hb0;clear k0 hb0 hX hS;generalize x.dir=dr at *;rcases hdir with rfl | rfl
 ·go_enter Tryz.func209,Tryz.ntmps209
  go_wp2_with fail
  clear e0;clear q0 q1 q2 q3 q4 q5 q6 q7 q8;refine (HV.out _ HB0.out).mono ?_;rintro e w' ⟨rfl,hb'⟩
  replace K0:=Zh (K0.out.below hb' K0.out.lt);replace HB0:=Zh (zAA HB0.out hb');clear hb';obtain ⟨q0,q1,q2,q3,q4,q5,q6,q7,q8⟩:=zrQ K0.out;go_wp2_with fail
  clear q0 q1 q2 q3 q4 q5 q6 q7 q8;refine (HN.out _).mono ?_;rintro e w' ⟨rfl,hb'⟩
  replace K0:=Zh (K0.out.below hb' K0.out.lt);replace HB0:=Zh (zAA HB0.out hb');clear hb';obtain ⟨q0,q1,q2,q3,q4,q5,q6,q7,q8⟩:=zrQ K0.out;go_wp2_with fail
  clear q0 q1 q2 q3 q4 q5 q6 q7 q8;refine (HR.out _ HB0.out).mono ?_;rintro e w' ⟨rfl,hb'⟩
  replace K0:=Zh (K0.out.below hb' K0.out.lt);replace HB0:=Zh (zAA HB0.out hb');clear hb';obtain ⟨q0,q1,q2,q3,q4,q5,q6,q7,q8⟩:=zrQ K0.out;go_wp2_with fail
  go_ret;exact ⟨rfl,HB0.out⟩
 ·go_enter Tryz.func209,Tryz.ntmps209
  go_wp2_with fail
  clear e0;clear q0 q1 q2 q3 q4 q5 q6 q7 q8;refine (HV.out _ HB0.out).mono ?_;rintro e w' ⟨rfl,hb'⟩
  replace K0:=Zh (K0.out.below hb' K0.out.lt);replace HB0:=Zh (zAA HB0.out hb');clear hb';obtain ⟨q0,q1,q2,q3,q4,q5,q6,q7,q8⟩:=zrQ K0.out;go_wp2_with fail
  clear q0 q1 q2 q3 q4 q5 q6 q7 q8;refine (HN.out _).mono ?_;rintro e w' ⟨rfl,hb'⟩
  replace K0:=Zh (K0.out.below hb' K0.out.lt);replace HB0:=Zh (zAA HB0.out hb');clear hb';obtain ⟨q0,q1,q2,q3,q4,q5,q6,q7,q8⟩:=zrQ K0.out;go_wp2_with fail
  clear q0 q1 q2 q3 q4 q5 q6 q7 q8;refine (HR.out _ HB0.out).mono ?_;rintro e w' ⟨rfl,hb'⟩
  replace K0:=Zh (K0.out.below hb' K0.out.lt);replace HB0:=Zh (zAA HB0.out hb');clear hb';obtain ⟨q0,q1,q2,q3,q4,q5,q6,q7,q8⟩:=zrQ K0.out;go_wp2_with fail
  go_ret;exact ⟨rfl,HB0.out⟩
theorem zvJ (F:Nat->Prop) (d:Nat) (us:List Value) (x:Md) (w:World) (h:RMd F d w us x) (hx:mdP x=true) (hF:∀b,F b->b<w.heap.size):Calls Tryz.prog 146 #[.agg us.toArray] w (zBW true w):=by
 obtain ⟨A,n,c,B,m,q,rfl,hS1,hS2⟩:=h;unfold mdP at hx;simp only [Yi,Xa,List.all_eq_true] at hx;obtain ⟨⟨⟨⟨h1,h2⟩,h3⟩,h4⟩,h5⟩:=hx;have HN:=Zh (zq3 x.s h1);have HQ:=Zh (fun W (hb:Below w.heap.size w W)=>zwZ (zqm F d) 207 #[] W (hS1.next (zqm F d) hb) (zDJ Tryz.func207 (by kernel_rfl) rfl) (fun W' us y hb' hy hR=>by
  rw [Array.append_empty];exact zuT F d us y W' hR (h4 y hy) (fun b hb2=>Yh (hF b hb2) (Yq hb.size hb'.size))))
 have HE:=Zh (fun W (hb:Below w.heap.size w W)=>zwX (zqw F d) 209 #[] W (hS2.next (zqw F d) hb) (zDJ Tryz.func209 (by kernel_rfl) rfl) (fun W' us y hb' hy hR=>by
  rw [Array.append_empty];exact zuS F d us y W' hR (h5 y hy) (fun b hb2=>Yh (hF b hb2) (Yq hb.size hb'.size))))
 have hn:=hS1.cap;have hm:=hS1.max;have hn2:=hS2.cap;have hm2:=hS2.max;have hl1:=hS1.len;have hl2:=hS2.len;have hl4:n<=4:=by omega
 have hl5:m<=4:=by omega
 clear h1 h2 h3 h4 h5 hl1 hl2;obtain ⟨W0,e0,hb0,k0⟩:=al1 w #[.string x.s,.slice A n c,.slice B m q] 60;obtain ⟨q0,q1,q2⟩:=zrc k0;have K0:=Zh k0;have HB0:=Zh hb0;clear k0 hb0 hS1 hS2;go_enter Tryz.func146,Tryz.ntmps146
 go_wp2_with fail
 clear e0;clear q0 q1 q2;refine (HN.out _).mono ?_;rintro e w' ⟨rfl,hb'⟩
 replace K0:=Zh (K0.out.below hb' K0.out.lt);replace HB0:=Zh (zAA HB0.out hb');clear hb';obtain ⟨q0,q1,q2⟩:=zrc K0.out;go_wp2_with fail
 clear q0 q1 q2;refine (HQ.out _ HB0.out).mono ?_;rintro e w' ⟨rfl,hb'⟩
 replace K0:=Zh (K0.out.below hb' K0.out.lt);replace HB0:=Zh (zAA HB0.out hb');clear hb';obtain ⟨q0,q1,q2⟩:=zrc K0.out;go_wp2_with fail
 clear q0 q1 q2;refine (HE.out _ HB0.out).mono ?_;rintro e w' ⟨rfl,hb'⟩
 replace K0:=Zh (K0.out.below hb' K0.out.lt);replace HB0:=Zh (zAA HB0.out hb');clear hb';obtain ⟨q0,q1,q2⟩:=zrc K0.out;go_wp2_with fail
 go_ret;exact ⟨rfl,HB0.out⟩
theorem zvK (F:Nat->Prop) (d:Nat) (us:List Value) (x:Pb) (w:World) (h:RPb F d w us x) (hx:pbP x=true) (hF:∀b,F b->b<w.heap.size):Calls Tryz.prog 82 #[.agg us.toArray] w (zBW true w):=by
 obtain ⟨A,n,c,B,m,q,C,i,j,rfl,hS1,hS2,hS3,-⟩:=h;unfold pbP at hx;simp only [Yi,Xa,List.all_eq_true] at hx;obtain ⟨⟨⟨⟨⟨⟨⟨⟨h1,h2⟩,h3⟩,h4⟩,h5⟩,h6⟩,h7⟩,h8⟩,h9⟩:=hx;have HD1:=Zh (fun W (hb:Below w.heap.size w W)=>zvo zqZ 144 #[] W (hS1.next zqZ hb) (zDJ Tryz.func144 (by kernel_rfl) rfl) (fun W' us y hb' hy hR=>by
  rw [Array.append_empty];exact zrw us y W' hR (h7 y hy)))
 have HD2:=Zh (fun W (hb:Below w.heap.size w W)=>zvo zqZ 144 #[] W (hS2.next zqZ hb) (zDJ Tryz.func144 (by kernel_rfl) rfl) (fun W' us y hb' hy hR=>by
  rw [Array.append_empty];exact zrw us y W' hR (h8 y hy)))
 have HM:=Zh (fun W (hb:Below w.heap.size w W)=>zwY (zqr F d) 146 #[] W (hS3.next (zqr F d) hb) (zDJ Tryz.func146 (by kernel_rfl) rfl) (fun W' us y hb' hy hR=>by
  rw [Array.append_empty];exact zvJ F d us y W' hR (h6 y hy) (fun b hb2=>Yh (hF b hb2) (Yq hb.size hb'.size))))
 have HV:=Zh (zqj x.n x.d h9);have hn:=hS1.cap;have hm:=hS1.max;have hn2:=hS2.cap;have hm2:=hS2.max;have hn3:=hS3.cap;have hm3:=hS3.max;have hl1:=hS1.len;have hl2:=hS2.len;have hl3:=hS3.len;have g1:1<=n/\n<=4:=by omega
 have g2:m<=4:=by omega
 have g3:1<=i/\i<=8:=by omega
 clear h1 h2 h3 h4 h5 h6 h7 h8 h9 hl1 hl2 hl3;obtain ⟨W0,e0,hb0,k0⟩:=al1 w #[.slice A n c,.slice B m q,.slice C i j,.int .i64 x.n,.int .i64 x.d] 27;obtain ⟨q0,q1,q2,q3,q4⟩:=zq2 k0;have K0:=Zh k0;have HB0:=Zh hb0;clear k0 hb0 hS1 hS2 hS3;go_enter Tryz.func82,Tryz.ntmps82
 go_wp2_with fail
 clear e0;clear q0 q1 q2 q3 q4;refine (HD1.out _ HB0.out).mono ?_;rintro e w' ⟨rfl,hb'⟩
 replace K0:=Zh (K0.out.below hb' K0.out.lt);replace HB0:=Zh (zAA HB0.out hb');clear hb';obtain ⟨q0,q1,q2,q3,q4⟩:=zq2 K0.out;go_wp2_with fail
 clear q0 q1 q2 q3 q4;refine (HD2.out _ HB0.out).mono ?_;rintro e w' ⟨rfl,hb'⟩
 replace K0:=Zh (K0.out.below hb' K0.out.lt);replace HB0:=Zh (zAA HB0.out hb');clear hb';obtain ⟨q0,q1,q2,q3,q4⟩:=zq2 K0.out;go_wp2_with fail
 clear q0 q1 q2 q3 q4;refine (HM.out _ HB0.out).mono ?_;rintro e w' ⟨rfl,hb'⟩
 replace K0:=Zh (K0.out.below hb' K0.out.lt);replace HB0:=Zh (zAA HB0.out hb');clear hb';obtain ⟨q0,q1,q2,q3,q4⟩:=zq2 K0.out;go_wp2_with fail
 clear q0 q1 q2 q3 q4;refine (HV.out _).mono ?_;rintro e w' ⟨rfl,hb'⟩
 replace K0:=Zh (K0.out.below hb' K0.out.lt);replace HB0:=Zh (zAA HB0.out hb');clear hb';obtain ⟨q0,q1,q2,q3,q4⟩:=zq2 K0.out;go_wp2_with fail
 go_ret;exact ⟨rfl,HB0.out⟩
theorem zsv (A:Option Addr) (n c:Nat) (xs:List ByteArray) (w:World) (h:Sl 1 zql w A n c xs) (hn:n<=1000) :
  Calls Tryz.prog 83 #[.slice A n c] w fun e w'=>∃v,e=.returned v/\zqq w' w.heap.size v xs/\Below w.heap.size w w':=by
 have hmax:=h.max;cases A with
 | none=>
  have h0:n=0:=by
   by_cases h0:0<n
   ·obtain ⟨b,off,e,_⟩:=h.at_ h0
    cases e
   ·omega
  subst h0;have hx:xs=[]:=h.empty rfl;subst hx;have hnil:=Lib.run_eql_slice_nil (P:=Tryz.prog) w 54 9 none 0 c 0 0 Tryz.underlying54;clear h;go_enter Tryz.func83,Tryz.ntmps83
  go_wp2_with fail
  go_ret;exact ⟨_,rfl,zqq.nil _ _,Yp _ _⟩
 | some ad=>
  have hcap:=h.cap;have hl:=h.len;have hnil:=Lib.run_eql_slice_nil (P:=Tryz.prog) w 54 9 (some ad) n c 0 0 Tryz.underlying54;have hcells:∀ (j:Nat) (u:Value),(xs.map Value.string)[j]? = some u->w.cell? (ad.add j)=some u:=fun j u hj=>by
   rw [List.getElem?_map] at hj;cases hx:xs[j]? with
   | none=>rw [hx] at hj;cases hj
   | some s=>
    rw [hx] at hj;injection hj with hj
    subst hj;have hjn:j<n:=by have:=(Yb.1 hx).1;omega
    obtain ⟨b,off,x,vs,e,hb,hx',hk,hR,hc⟩:=h.get hjn;injection e with e
    subst e;rw [hx] at hx';injection hx' with hx'
    subst hx';unfold zql at hR;subst hR;have:=hc 0 _ rfl;rw [ztg]
    rwa [show off+j*1+0=off+j by omega] at this
  have h2':∀ (j:Nat) (u:Value),(xs.map Value.string)[j]? = some u->(w.alloc (.cells #[] 9)).cell? (ad.add j)=some u:=fun j u hj=>by
   have hq:=hcells j u hj;exact ((zAE w (.cells #[] 9)).cell (p:=ad.add j) (World.block_lt_of_cell? w (ad.add j) hq)).trans hq
  obtain ⟨iB,hiB,hzB,hsB,hyB⟩:=info_parts zUF;have hb6:=zAE w (.cells #[] 9);have hz6:(w.alloc (.cells #[] 9)).heap.size=w.heap.size+1:=by simp
  have hz6a:=Ys hz6.symm;have HOW:Hid ((w.alloc (.cells #[] 9)).ownsRow w.heap.size 9 1 (.slice (some ⟨w.heap.size,0,none⟩) 0 0) 0 []):=⟨rfl,.inr ⟨w.heap.size,0,#[],rfl,Ya _,Blk.new _ _ _,Ya _,by simp [maxLen],rfl,rfl⟩⟩;have hll:(xs.map Value.string).length=n*1:=by rw [Xe,hl,Nat.mul_one]
  have HL:=Zh hl;clear hz6 h hcells hl;go_enter Tryz.func83,Tryz.ntmps83
  go_wp2_with (at_builtin;go_loud (refine wpList_append_own_at _ rfl _ _ 54 rfl w.heap.size 9 iB _ 1 16 Tryz.underlying54 hiB hzB hsB hyB rfl (by omega) (.slice (some ⟨w.heap.size,0,none⟩) 0 0) 0 [] rfl HOW.out ad n c (xs.map Value.string) rfl hll ?c1 (by simp [Value.oneCell']) ?c2 ?c3 ?c4 ?_))
  case c1=>exact h2'
  case c2=>simp only [maxLen];omega
  case c3=>omega
  case c4=>omega
  intro v1 w6 ho6 hg6 _ _;have HBB:=Zh (hb6.trans ((Yp w.heap.size _).grown hg6 (by omega) (fun k hk=>by injection hk with hk;exact Ys hk)));have HO:=Zh ho6;clear ho6 hg6;go_wp2_with fail
  go_ret;refine ⟨_,rfl,?_,HBB.out⟩;have:=HO.out;unfold zqq;rw [HL.out]
  simpa using this
theorem zsl {a d:Int}(ha:-1073741824<=a/\a<=1073741824) (hd:1<=d/\d<=1073741824):-1152921504606846976<=a*d/\a*d<=1152921504606846976:=by
 have h1:(a*d).natAbs<=1073741824*1073741824:=by
  rw [Int.natAbs_mul];exact Nat.mul_le_mul (by omega) (by omega)
 omega
theorem ztT (a b c d:Int) (h1:zrA a b=true) (h2:zrA c d=true) (w:World):Calls Tryz.prog 86 #[.agg #[.int .i64 a,.int .i64 b],.agg #[.int .i64 c,.int .i64 d]] w fun e w'=>∃r:Int,e=.returned (.int .i64 r)/\(r<=0 ↔ a*d<=c*b)/\Below w.heap.size w w':=by
 have r1:=zrM h1;have r2:=zrM h2;have m1:=zsl ⟨r1.2.2.1,r1.2.2.2.1⟩ ⟨r2.1,r2.2.1⟩;have m2:=zsl ⟨r2.2.2.1,r2.2.2.2.1⟩ ⟨r1.1,r1.2.1⟩;have hwr1:IntKind.i64.wrap (a*d)=a*d:=IntWalk.i64_in _ (by omega);have hwr2:IntKind.i64.wrap (c*b)=c*b:=IntWalk.i64_in _ (by omega);have HA:=Zh (zqj a b h1);have HC:=Zh (zqj c d h2);obtain ⟨W0,e0,hb0,k0,k1⟩:=al2 w #[.int .i64 a,.int .i64 b] 25 #[.int .i64 c,.int .i64 d] 25;have q0:W0.cell? ⟨w.heap.size,0,none⟩=some (.int .i64 a):=k0.cell 0;have q1:W0.cell? ⟨w.heap.size,1,none⟩=some (.int .i64 b):=k0.cell 1;have HB0:=Zh hb0;have K0:=Zh k0;have K1:=Zh k1;clear h1 h2 r1 r2 hb0 k0 k1;go_enter Tryz.func86,Tryz.ntmps86
 go_wp2_with fail
 clear e0 q0 q1;refine (HA.out _).mono ?_;rintro e w1 ⟨rfl,hb1⟩
 have q0:w1.cell? ⟨w.heap.size+1,0,none⟩=some (.int .i64 c):=(K1.out.below hb1 K1.out.lt).cell 0;have q1:w1.cell? ⟨w.heap.size+1,1,none⟩=some (.int .i64 d):=(K1.out.below hb1 K1.out.lt).cell 1;have HB1:=Zh hb1;clear hb1;go_wp2_with fail
 clear q0 q1;refine (HC.out _).mono ?_;rintro e w2 ⟨rfl,hb2⟩
 have hb12:=zAA HB1.out hb2;have q0:w2.cell? ⟨w.heap.size,0,none⟩=some (.int .i64 a):=(K0.out.below hb12 K0.out.lt).cell 0;have q1:w2.cell? ⟨w.heap.size,1,none⟩=some (.int .i64 b):=(K0.out.below hb12 K0.out.lt).cell 1;have q2:w2.cell? ⟨w.heap.size+1,0,none⟩=some (.int .i64 c):=(K1.out.below hb12 K1.out.lt).cell 0;have q3:w2.cell? ⟨w.heap.size+1,1,none⟩=some (.int .i64 d):=(K1.out.below hb12 K1.out.lt).cell 1;have HB:=Zh (zAA HB0.out hb12);clear hb2 hb12;go_wp2_with fail
 go_quiet (fail)
 try rw [hwr1]
 try rw [hwr2]
 go_wp2_with fail
 ·go_ret
  exact ⟨-1,rfl,⟨fun _=>by omega,fun _=>by omega⟩,zAR HB.out _⟩
 ·go_ret
  exact ⟨1,rfl,⟨fun _=>by omega,fun _=>by omega⟩,zAR HB.out _⟩
 ·go_ret
  exact ⟨0,rfl,⟨fun _=>by omega,fun _=>by omega⟩,zAR HB.out _⟩
structure zKf (e:TypeId) (k:Nat) (w:World) (base:Nat) (v:Value) (fs:List (List Value)):Prop where
 own:w.ownsRow base e k v fs.length fs.flatten
 len:∀f∈fs,f.length=k
section
variable {e:TypeId}{k:Nat}{w w':World}{base:Nat}{v:Value}{fs:List (List Value)}
theorem zKf.nil (e:TypeId) (k:Nat) (w:World) (base:Nat):zKf e k w base (.slice none 0 0) []:=⟨⟨by simp,.inl ⟨rfl,rfl⟩⟩,by simp⟩
theorem zKf.next (h:zKf e k w base v fs) (hb:Below w.heap.size w w'):zKf e k w' base v fs:=by
 refine ⟨⟨h.own.1,?_⟩,h.len⟩;rcases h.own.2 with hn | ⟨g,cap,cur,hv,hbg,hg,rest⟩
 ·exact .inl hn
 ·exact .inr ⟨g,cap,cur,hv,hbg,(hb.block g (Yv.1 hg).1).trans hg,rest⟩
theorem zEb {fs:List (List Value)}{k:Nat}(h:∀f∈fs,f.length=k):∀ (j i:Nat) (f:List Value) (u:Value),fs[j]? = some f->f[i]? = some u->fs.flatten[j*k+i]? = some u:=by
 induction fs with
 | nil=>intro j i f u hj;simp at hj
 | cons a fs ih=>
  intro j i f u hj hi;have ha:=h a (by simp);cases j with
  | zero=>
   simp at hj;subst hj;have:i<a.length:=(Yb.1 hi).1;rw [List.flatten_cons,Yw (by omega)]
   simpa using hi
  | succ j=>
   rw [List.flatten_cons,Yx (by rw [ha,Nat.succ_mul];omega),ha,show (j+1)*k+i - k=j*k+i by rw [Nat.succ_mul];omega];exact ih (fun f hf=>h f (by simp [hf])) j i f u (by simpa using hj) hi
theorem zGp {k:Nat}:∀ {fs:List (List Value)},(∀f∈fs,f.length=k)->fs.flatten.length=fs.length*k:=by
 intro fs
 induction fs with
 | nil=>intro _;simp
 | cons f fs ih=>
  intro h;have:=ih (fun g hg=>h g (by simp [hg]));rw [List.flatten_cons,Yu,List.length_cons,this,h f (by simp),Nat.succ_mul];omega
theorem zKf.sl {α:Type}{R:World->List Value->α->Prop}{xs:List α}(h:zKf e k w base v fs) (hx:xs.length=fs.length) (hR:∀ (j:Nat) (f:List Value) (x:α),fs[j]? = some f->xs[j]? = some x->R w f x) :
  ∃A c,v=.slice A fs.length c/\Sl k R w A fs.length c xs:=by
 rcases h.own.2 with ⟨rfl,h0⟩ | ⟨g,cap,cur,rfl,hbg,hg,h1,h2,h3,h4⟩
 ·have hn:xs=[]:=List.eq_nil_of_length_eq_zero (by omega)
  subst hn;exact ⟨none,0,by rw [h0],by rw [h0];exact Sl.nil _⟩
 ·refine ⟨_,cap,rfl,hx,h1,by simpa [maxLen] using h2,fun _=>⟨g,0,rfl,(Yv.1 hg).1,fun j x hj=>?_⟩⟩
  have hjl:j<fs.length:=by have:=(Yb.1 hj).1;omega
  have hf:fs[j]? = some fs[j]:=Yo hjl;refine ⟨fs[j],h.len _ (List.getElem_mem hjl),hR j _ x hf hj,fun i u hu=>?_⟩;rw [Nat.zero_add,Blk.cell hg];have h5:=zEb h.len j i _ u hf hu;rw [<- h4] at h5;have hlt:j*k+i<fs.length*k:=by
   have:=(Yb.1 h5).1;simp only [Yr] at this;omega
  rw [Xf hlt] at h5
  simpa using h5
theorem zKf.lt (h:zKf e k w base v fs):∀g,v.ownBlock=some g->base<=g/\g<w.heap.size:=h.own.lt
end
end Go.Proofs.YtngjhigieajkmaaGreatDoor
end
