/- Bundle 5: what the law's walk stands on: Q1, Q2, Q3, Q4, Q5. -/
import GoSem.Step
import Derived.Laws.CopyRow
import Derived.Laws.MakeOwn
import Derived.Laws.Append
import Derived.ChangeKeysEq
import Derived.Test.YtchkfjgcbbbffaaGreatDoorZ1
set_option maxRecDepth 100000
set_option maxHeartbeats 20000000
set_option linter.all false
noncomputable section
namespace Go.Proofs.YtchkfjgcbbbffaaGreatDoor
open Go
inductive AV where
 | i (k:IntKind) (n:Int)
 | b (t:Bool)
 | v (x:Value)
 | lim (n:Nat)
 | fsl (cells:List AV) (len:Nat)
 | fpt (cells:List AV)
 | sl (id off len k:Nat) (cap:Option Nat)
 | ptr (id off:Nat)
 | map (id:Nat)
 | agg (cs:List AV)
 | tup (vs:List AV)
 | fn (f:FuncId) (caps:List AV)
 | any
inductive HB where
 | cells (cs:List AV)
 | map (es:List (AV×AV))
abbrev Hp:=List (Nat×HB)
abbrev Tm:=List (Nat×AV)
def look (l:Tm) (k:Nat):AV:=
 List.rec (motive:=fun _=>AV) .any (fun p _ ih=>Prod.rec (fun i v=>Bool.rec ih v (Nat.beq i k)) p) l
def hget (H:Hp) (k:Nat):Option HB:=
 List.rec (motive:=fun _=>Option HB) none (fun p _ ih=>Prod.rec (fun i v=>Bool.rec ih (some v) (Nat.beq i k)) p) H
def zK1 (H:Hp) (k:Nat) (x:HB):Hp:=
 List.rec (motive:=fun _=>Hp) [] (fun p r ih=>Prod.rec (fun i v=>Bool.rec ((i,v)::ih) ((i,x)::r) (Nat.beq i k)) p) H
def zPj (H:Hp) (k:Nat):Hp:=
 List.rec (motive:=fun _=>Hp) [] (fun p r ih=>Prod.rec (fun i v=>Bool.rec ((i,v)::ih) r (Nat.beq i k)) p) H
def zKz (H:Hp) (n:Nat):Hp:=
 List.rec (motive:=fun _=>Hp) [] (fun p r ih=>Bool.rec (p::r) ih (Nat.ble n p.1)) H
def zDo (H:Hp) (n:Nat) (l:List Nat):Hp:=
 List.rec (motive:=fun _=>Hp) [] (fun p r ih=>Bool.rec (p::r) (Bool.rec ih (p::ih) (List.rec false (fun a _ ih=>Bool.rec ih true (Nat.beq a p.1)) l)) (Nat.ble n p.1)) H
inductive PT (α:Type) where
 | lf
 | nd (v:α) (l r:PT α)
def PT.get {α:Type}(d:α) (t:PT α):Nat->α:=
 PT.rec (motive:=fun _=>Nat->α) (fun _=>d) (fun v _ _ ihl ihr n=>Bool.rec (Bool.rec (ihr (Nat.sub (Nat.div n 2) 1)) (ihl (Nat.div n 2)) (Nat.beq (Nat.land n 1) 1)) v (Nat.beq n 0)) t
inductive TC where
 | other | bool | int (k:IntKind) | str | ptr | fnc
 | slice (e:Nat) | arr (n e:Nat) | map (k e:Nat)
 | struct (fs:List (Nat×Nat×Bool))
structure TI where
 c:TC
 size:Nat
 bytes:Nat
 zero:List AV
 eq:Bool
inductive RV where
 | fail
 | ok (v:AV) (H:Hp) (n:Nat)
inductive Ex where
 | nrm | ret
 | exit (id:Nat)
inductive Res where
 | fail
 | ok (x:Ex) (T:Tm) (H:Hp) (n:Nat)
abbrev zAz:=Hp->List AV->Option AV
structure ME where
 k:Nat
 paths:List (Option Nat×Nat)
 args:List AV
 H:Hp
 v:AV
 new:Hp
 n':Nat
structure Env where
 ti:PT (Option TI)
def ofV (x:Value):AV:=
 match x with
 | .int k n=>.i k n
 | .bool t=>.b t
 | .agg _=>.any
 | .func (.func f) first caps=>(match first.toList,caps.toList with | [],[]=>.fn f [] | _,_=>.any)
 | x=>.v x
def zAf (T:Tm) (x:Operand):AV:=
 Operand.rec (motive:=fun _=>AV) (fun t=>look T t) ofV (fun _=>.any) (fun f=>.fn f []) x
def zEJ {α:Type}(l:List α) (n:Nat):List α:=
 Nat.rec (motive:=fun _=>List α->List α) (fun l=>l) (fun _ ih l=>List.rec [] (fun _ r _=>ih r) l) n l
def zI9 {α:Type}(l:List α) (n:Nat):List α:=
 Nat.rec (motive:=fun _=>List α->List α) (fun _=>[]) (fun _ ih l=>List.rec [] (fun a r _=>a::ih r) l) n l
def zJK {α:Type}(l:List α):Nat:=List.rec 0 (fun _ _ ih=>Nat.succ ih) l
def zK0 {α:Type}(l:List α):Option α:=List.rec none (fun a _ _=>some a) l
def nth {α:Type}(l:List α) (n:Nat):Option α:=zK0 (zEJ l n)
def zE7 {α β:Type}(f:α->β) (l:List α):List β:=List.rec [] (fun a _ ih=>f a::ih) l
def app {α:Type}(a b:List α):List α:=List.rec b (fun x _ ih=>x::ih) a
def zA6 {α β:Type}(x:Option α) (f:α->Option β):Option β:=Option.rec none f x
def cells? (x:AV):Option (List AV):=
 AV.rec (motive_1:=fun _=>Option (List AV)) (motive_2:=fun _=>Unit) (fun k n=>some [.i k n]) (fun t=>some [.b t])
  (fun x=>match x with | .agg _=>none | .tuple _=>none | x=>some [.v x]) (fun n=>some [.lim n]) (fun c l _=>some [.fsl c l]) (fun c _=>some [.fpt c])
  (fun id off len k cap=>some [.sl id off len k cap]) (fun id off=>some [.ptr id off]) (fun id=>some [.map id]) (fun cs _=>some cs) (fun _ _=>none) (fun f c _=>some [.fn f c]) none
  () (fun _ _ _ _=>()) x
def zVp (d:Nat):AV:=.i .u32 (Int.ofNat d)
def zIZ (f:Nat):Nat->List AV:=
 Nat.rec (motive:=fun _=>Nat->List AV) (fun _=>[]) (fun _ ih n=>Bool.rec (zVp (Nat.mod n 4294967296)::ih (Nat.div n 4294967296)) [] (Nat.beq n 0)) f
def zER (n:Nat):Nat:=Bool.rec (Nat.succ (Nat.div (Nat.log2 n) 32)) 0 (Nat.beq n 0)
def zDP (agg:Bool) (n:Nat) (l:List AV):Option AV:=
 Bool.rec (zK0 l) ((fun r=>Bool.rec none (some (.agg r)) (Nat.beq (zJK r) n)) (zI9 l n)) agg
def zC6 (c:TC):Bool:=match c with | .arr ..=>true | .struct _=>true | _=>false
def loadAt (H:Hp) (p:AV) (agg:Bool) (n:Nat):Option AV:=
 match p with
 | .ptr id off=>(match hget H id with
  | some (.cells cs)=>zDP agg n (zEJ cs off)
  | _=>none)
 | .fpt cs=>zDP agg n cs
 | _=>none
def zGJ (cs:List AV):List AV->Option (List AV):=
 List.rec (motive:=fun _=>List AV->Option (List AV)) (fun vs=>List.rec (some []) (fun _ _ _=>none) vs)
  (fun c r ih vs=>List.rec (some (c::r)) (fun v vs _=>Option.rec none (fun l=>some (v::l)) (ih vs)) vs) cs
def zDY (n:Nat):List AV->List AV->Option (List AV):=
 Nat.rec (motive:=fun _=>List AV->List AV->Option (List AV)) zGJ
  (fun _ ih cs vs=>List.rec none (fun c r _=>Option.rec none (fun l=>some (c::l)) (ih r vs)) cs) n
def nat? (x:AV):Option Nat:=match x with | .i _ n=>(match n with | .ofNat m=>some m | _=>none) | _=>none
def zHd (k:IntKind) (n:Int):Int:=
 match k,n with
 | .i64,.ofNat m=>Bool.rec (k.wrap n) n (Nat.ble m 9223372036854775807)
 | .i64,.negSucc m=>Bool.rec (k.wrap n) n (Nat.ble m 9223372036854775807)
 | .u32,.ofNat m=>.ofNat (Nat.mod m 4294967296)
 | .u64,.ofNat m=>.ofNat (Nat.mod m 18446744073709551616)
 | k,n=>k.wrap n
def ltI (a b:Int):Bool:=
 match a,b with
 | .ofNat x,.ofNat y=>Nat.ble (Nat.succ x) y
 | .ofNat _,.negSucc _=>false
 | .negSucc _,.ofNat _=>true
 | .negSucc x,.negSucc y=>Nat.ble (Nat.succ y) x
def eqI (a b:Int):Bool:=
 match a,b with
 | .ofNat x,.ofNat y=>Nat.beq x y
 | .negSucc x,.negSucc y=>Nat.beq x y
 | _,_=>false
def kc (k:IntKind):Nat:=IntKind.rec 0 1 2 3 4 5 6 7 k
def zNi (f:Nat->Nat->Nat) (k:IntKind) (a b:Int):Option AV:=
 match a,b with
 | .ofNat x,.ofNat y=>some (.i k (zHd k (.ofNat (f (Nat.mod x (Nat.pow 2 k.bits)) (Nat.mod y (Nat.pow 2 k.bits))))))
 | _,_=>none
def zR6 (op:BinOp):IntKind->Int->Int->Option AV:=
 match op with
 | .add=>fun k a b=>some (.i k (zHd k (Int.add a b)))
 | .sub=>fun k a b=>some (.i k (zHd k (Int.sub a b)))
 | .mul=>fun k a b=>some (.i k (zHd k (Int.mul a b)))
 | .quo=>fun k a b=>Bool.rec (some (.i k (zHd k (Int.tdiv a b)))) none (eqI b (.ofNat 0))
 | .rem=>fun k a b=>Bool.rec (some (.i k (Int.tmod a b))) none (eqI b (.ofNat 0))
 | .eql=>fun _ a b=>some (.b (eqI a b))
 | .neq=>fun _ a b=>some (.b (Bool.not (eqI a b)))
 | .lss=>fun _ a b=>some (.b (ltI a b))
 | .leq=>fun _ a b=>some (.b (Bool.not (ltI b a)))
 | .gtr=>fun _ a b=>some (.b (ltI b a))
 | .geq=>fun _ a b=>some (.b (Bool.not (ltI a b)))
 | .and=>zNi Nat.land
 | .or=>zNi Nat.lor
 | .xor=>zNi Nat.xor
 | _=>fun _ _ _=>none
def zO8 (op:BinOp) (k:IntKind) (a b:Int):Option AV:=
 match a,b with
 | .ofNat x,.ofNat y=>Bool.rec none (match op with
  | .shl=>some (.i k (zHd k (.ofNat (Nat.mul x (Nat.pow 2 y)))))
  | .shr=>some (.i k (.ofNat (Nat.div x (Nat.pow 2 y))))
  | _=>none) (Nat.ble y k.bits)
 | _,_=>none
def zVj (op:BinOp) (x y:List UInt8):Option AV:=
 match op with
 | .eql=>some (.b (x == y))
 | .neq=>some (.b (!(x == y)))
 | .lss=>some (.b (Op.bytesLess x y))
 | .leq=>some (.b (Op.bytesLess x y || x == y))
 | .gtr=>some (.b !(Op.bytesLess x y || x == y))
 | .geq=>some (.b !(Op.bytesLess x y))
 | _=>none
def zCo (xs:List AV):List AV->Option Bool:=
 List.rec (motive:=fun _=>List AV->Option Bool) (fun ys=>List.rec (some true) (fun _ _ _=>none) ys)
  (fun x _ ih ys=>List.rec none (fun y r _=>match x,y with
   | .i j a,.i k b=>Bool.rec none (Bool.rec (some false) (ih r) (eqI a b)) (Nat.beq (kc j) (kc k))
   | _,_=>none) ys) xs
def zOD (x:AV):Option Bool:=
 match x with
 | .v (.slice none _ _)=>some true
 | .sl ..=>some false
 | .fsl ..=>some false
 | .lim n=>Bool.rec (some false) none (Nat.beq n 0)
 | _=>none
def zOC (x:AV):Option Bool:=
 match x with
 | .v (.pointer none)=>some true
 | .ptr _ _=>some false
 | .fpt _=>some false
 | _=>none
def zOB (x:AV):Option Bool:=
 match x with
 | .v .nilFunc=>some true
 | .fn _ _=>some false
 | _=>none
def zRO (op:BinOp) (t:Bool):Option AV:=match op with | .eql=>some (.b t) | .neq=>some (.b (Bool.not t)) | _=>none
def zEu (ti:TI) (op:BinOp) (x y:AV):Option AV:=
 match ti.c with
 | .str=>(match x,y with
  | .v (.string a),.v (.string b)=>zVj op a.data.toList b.data.toList
  | _,_=>none)
 | .bool=>(match x,y with
  | .b a,.b b=>zRO op (Bool.rec (Bool.not b) b a)
  | _,_=>none)
 | .struct _=>Bool.rec none (match x,y with
  | .agg a,.agg b=>Bool.rec none (zA6 (zCo a b) fun t=>zRO op t) (Nat.beq (zJK a) ti.size)
  | _,_=>none) ti.eq
 | .ptr=>nilCmp zOC op x y
 | .slice _=>nilCmp zOD op x y
 | .fnc=>nilCmp zOB op x y
 | _=>none
where
 nilCmp (isNil:AV->Option Bool) (op:BinOp) (x y:AV):Option AV:=
  zA6 (isNil x) fun a=>zA6 (isNil y) fun b=>Bool.rec (Bool.rec none (zRO op false) b) (zRO op b) a
def zK6 (op:BinOp):Bool:=match op with | .shl=>true | .shr=>true | _=>false
def binop (E:Env) (op:BinOp) (t:Nat) (x y:AV):Option AV:=
 match x with
 | .i k a=>(match y with
  | .i k' b=>Bool.rec (Bool.rec none (zR6 op k a b) (Nat.beq (kc k) (kc k'))) (zO8 op k a b) (zK6 op)
  | _=>none)
 | x=>zA6 (PT.get none E.ti t) fun ti=>zEu ti op x y
def lenOf (x:AV):Option Nat:=
 match x with
 | .sl _ _ l _ _=>some l
 | .fsl _ l=>some l
 | .lim n=>some (zER n)
 | .v (.slice none 0 0)=>some 0
 | _=>none
def zE1 (l:List AV) (m:Nat):Option (List AV):=(fun r=>Bool.rec none (some r) (Nat.beq (zJK r) m)) (zI9 l m)
def zBR (H:Hp) (size m:Nat) (x:AV):Option (List AV):=
 match x with
 | .sl id off _ _ _=>(match hget H id with
  | some (.cells cs)=>zE1 (zEJ cs off) (Nat.mul m size)
  | _=>none)
 | .fsl cs _=>zE1 cs (Nat.mul m size)
 | .lim n=>Bool.rec none (zE1 (zIZ 1000 n) m) (Nat.beq size 1)
 | .v (.slice none _ _)=>Bool.rec none (some []) (Nat.beq m 0)
 | _=>none
def zCJ (ρ:Operand->AV) (place:Nat->Option (Nat×Nat)) (ps:List (Nat×Operand)):List AV->Option (List AV):=
 List.rec (motive:=fun _=>List AV->Option (List AV)) (fun cells=>some cells)
  (fun p _ ih cells=>zA6 (place p.1) fun q=>zA6 (cells? (ρ p.2)) fun cs=>Bool.rec none (zA6 (zDY q.1 cells cs) ih) (Nat.beq (zJK cs) q.2)) ps
def zTl (n:Nat) (z:List AV):List AV:=Nat.rec (motive:=fun _=>List AV) [] (fun _ ih=>app z ih) n
def zJs (x y:AV):Option Bool:=
 match x,y with
 | .i j a,.i k b=>Bool.rec none (some (eqI a b)) (Nat.beq (kc j) (kc k))
 | .agg xs,.agg ys=>zCo xs ys
 | _,_=>none
def findKey (k:AV) (es:List (AV×AV)):Option (Option AV):=
 List.rec (some none) (fun p _ ih=>zA6 (zJs k p.1) fun t=>Bool.rec ih (some (some p.2)) t) es
def zJ9 (k v:AV) (es:List (AV×AV)):Option (List (AV×AV)):=
 List.rec (some [(k,v)]) (fun p r ih=>zA6 (zJs k p.1) fun t=>Bool.rec (zA6 ih fun l=>some (p::l)) (some ((p.1,v)::r)) t) es
abbrev zAr:=Nat->List AV->Hp->Nat->RV
abbrev Run:=Env->zAr->Tm->Hp->Nat->RV
def okv (x:Option AV) (H:Hp) (n:Nat):RV:=Option.rec .fail (fun v=>.ok v H n) x
def zTj (cs:List AV) (H:Hp) (n:Nat):RV:=.ok (.ptr n 0) ((n,.cells cs)::H) (Nat.succ n)
def withT (E:Env) (t:Nat) (f:TI->RV):RV:=Option.rec .fail f (PT.get none E.ti t)
def elemT (E:Env) (t:Nat) (f:TI->RV):RV:=withT E t fun ti=>match ti.c with | .slice e=>withT E e f | _=>.fail
def zTc (x:Operand):Run:=fun _ _ T H n=>.ok (zAf T x) H n
def zKb (c a b:Operand):Run:=fun _ _ T H n=>match zAf T c with
 | .b t=>.ok (Bool.rec (zAf T b) (zAf T a) t) H n
 | _=>.fail
def zHN (t:Nat):Run:=fun E _ _ H n=>withT E t fun ti=>zTj ti.zero H n
def zRt (_:Nat) (x:Operand):Run:=fun _ _ T H n=>Option.rec .fail (fun cs=>zTj cs H n) (cells? (zAf T x))
def zOg (fs:List (Nat×Nat×Bool)) (i:Nat):Option (Nat×Nat):=zA6 (nth fs i) fun f=>some (f.1,f.2.1)
def zHO (t:Nat) (ps:Array (Nat×Operand)):Run:=fun E _ T H n=>withT E t fun ti=>
 match ti.c with
 | .struct fs=>okv (zA6 (zCJ (zAf T) (zOg fs) ps.toList ti.zero) fun cs=>some (.agg cs)) H n
 | .arr _ e=>withT E e fun te=>okv (zA6 (zCJ (zAf T) (fun i=>some (Nat.mul i te.size,te.size)) ps.toList ti.zero) fun cs=>some (.agg cs)) H n
 | _=>.fail
def zBv (t len:Nat) (ps:Array (Nat×Operand)):Run:=fun E _ T H n=>elemT E t fun te=>
 Bool.rec .fail (Option.rec .fail (fun cs=>.ok (.sl n 0 len te.size (some len)) ((n,.cells cs)::H) (Nat.succ n))
  (zCJ (zAf T) (fun i=>some (Nat.mul i te.size,te.size)) ps.toList (zTl len te.zero))) (Nat.ble (Nat.mul len te.size) 16777216)
def zHe (t:Nat) (a:Operand):Run:=fun E _ T H n=>withT E t fun ti=>okv (loadAt H (zAf T a) (zC6 ti.c) ti.size) H n
def zI6 (size:Nat) (a:AV) (vs:List AV) (H:Hp) (n:Nat):RV:=
 match a with
 | .ptr id off=>(match hget H id with
  | some (.cells cs)=>Bool.rec .fail (Option.rec .fail (fun cs'=>.ok (.v undef) (zK1 H id (.cells cs')) n) (zDY off cs vs)) (Nat.beq (zJK vs) size)
  | _=>.fail)
 | _=>.fail
def zMS (t:Nat) (a x:Operand):Run:=fun E _ T H n=>withT E t fun ti=>Option.rec .fail (fun cs=>zI6 ti.size (zAf T a) cs H n) (cells? (zAf T x))
def zRu (x:Operand):Run:=fun _ _ T H n=>match zAf T x with
 | .ptr i o=>.ok (.ptr i o) H n
 | .fpt c=>.ok (.fpt c) H n
 | .fn f c=>.ok (.fn f c) H n
 | _=>.fail
def zTb (op:BinOp) (t:Nat) (x y:Operand) (_:Nat):Run:=fun E _ T H n=>okv (binop E op t (zAf T x) (zAf T y)) H n
def xUn (op:UnOp) (_:Nat) (x:Operand):Run:=fun _ _ T H n=>match op,zAf T x with
 | .neg,.i k a=>.ok (.i k (zHd k (Int.neg a))) H n
 | .not,.b t=>.ok (.b (Bool.not t)) H n
 | _,_=>.fail
def zLT (src dst:Nat) (x:Operand):Run:=fun E _ T H n=>withT E src fun _=>withT E dst fun ti=>match ti.c,zAf T x with
 | .int k,.i _ a=>.ok (.i k (zHd k a)) H n
 | _,_=>.fail
def zKa (f:Fn) (first caps:Array Operand):Run:=fun _ _ T H n=>match f,first.toList with
 | .func f,[]=>.ok (.fn f (zE7 (zAf T) caps.toList)) H n
 | _,_=>.fail
def zLU (t:Nat) (l c:Operand):Run:=fun E _ T H n=>elemT E t fun te=>match nat? (zAf T l),nat? (zAf T c) with
 | some l,some c=>Bool.rec .fail (.ok (.sl n 0 l te.size (some c)) ((n,.cells (zTl c te.zero))::H) (Nat.succ n)) (Bool.and (Nat.ble l c) (Bool.and (Nat.ble c 16777216) (Nat.ble te.bytes 65536)))
 | _,_=>.fail
def zNS (T:Tm) (d:Nat) (x:Option Operand):Option Nat:=Option.rec (some d) (fun x=>nat? (zAf T x)) x
def resl (id off k l h m:Nat) (H:Hp) (n:Nat):RV:=.ok (.sl id (Bool.rec (Nat.add off (Nat.mul l k)) off (Nat.beq m l)) (Nat.sub h l) k (some (Nat.sub m l))) H n
def zHR (t:Nat) (x:Operand) (lo hi mx:Option Operand):Run:=fun E _ T H n=>elemT E t fun te=>
 match zAf T x with
 | .sl id off len k cap=>Bool.rec .fail (match cap with
  | some c=>(match zNS T 0 lo,zNS T len hi,zNS T c mx with
   | some l,some h,some m=>Bool.rec .fail (Bool.rec .fail (resl id off k l h m H n) (Bool.and (Bool.and (Nat.ble l h) (Nat.ble h m)) (Nat.ble m c))) (Option.rec true (fun _=>Option.rec false (fun _=>true) hi) mx)
   | _,_,_=>.fail)
  | none=>(match zNS T 0 lo,zNS T len hi,mx with
   | some l,some h,none=>Bool.rec .fail (.ok (.sl id (Nat.add off (Nat.mul l k)) (Nat.sub h l) k none) H n)
     (Bool.and (Bool.and (Nat.ble l h) (Nat.ble h len)) (Bool.or (Nat.beq l 0) (Nat.ble (Nat.succ l) h)))
   | _,_,_=>.fail)) (Nat.beq k te.size)
 | .fsl cs len=>(match zNS T 0 lo,zNS T len hi,mx with
  | some l,some h,none=>Bool.rec .fail (.ok (.fsl (zEJ cs (Nat.mul l te.size)) (Nat.sub h l)) H n) (Bool.and (Bool.and (Nat.ble l h) (Nat.ble h len)) (Bool.or (Nat.beq l 0) (Nat.ble (Nat.succ l) h)))
  | _,_,_=>.fail)
 | .v (.slice none l c)=>(match zNS T 0 lo,zNS T 0 hi,mx,l,c with
  | some 0,some 0,none,0,0=>.ok (.v (.slice none 0 0)) H n
  | _,_,_,_,_=>.fail)
 | _=>.fail
def zB7 (t:Nat) (x:Operand) (f:Nat):Run:=fun E _ T H n=>withT E t fun ti=>match ti.c with
 | .struct fs=>(match nth fs f with
  | some fd=>Bool.rec (match zAf T x with
   | .ptr id o=>.ok (.ptr id (Nat.add o fd.1)) H n
   | .fpt cs=>.ok (.fpt (zEJ cs fd.1)) H n
   | _=>.fail) .fail (Nat.beq fd.2.1 0)
  | none=>.fail)
 | _=>.fail
def zHP (t:Nat) (x:Operand) (f:Nat):Run:=fun E _ T H n=>withT E t fun ti=>match ti.c,zAf T x with
 | .struct fs,.agg cs=>(match nth fs f with
  | some fd=>okv (zDP fd.2.2 fd.2.1 (zEJ cs fd.1)) H n
  | none=>.fail)
 | _,_=>.fail
def zB8 (t:Nat) (x i:Operand):Run:=fun E _ T H n=>withT E t fun ti=>Option.rec .fail (fun i=>match ti.c with
 | .slice e=>withT E e fun te=>(match zAf T x with
  | .sl id off len _ _=>Bool.rec .fail (.ok (.ptr id (Nat.add off (Nat.mul i te.size))) H n) (Nat.ble (Nat.succ i) len)
  | .fsl cs len=>Bool.rec .fail (.ok (.fpt (zEJ cs (Nat.mul i te.size))) H n) (Nat.ble (Nat.succ i) len)
  | .lim m=>Bool.rec .fail (Bool.rec .fail (.ok (.fpt (zEJ (zIZ 1000 m) i)) H n) (Nat.beq te.size 1)) (Nat.ble (Nat.succ i) (zER m))
  | _=>.fail)
 | .arr len e=>withT E e fun te=>(match zAf T x with
  | .ptr id off=>Bool.rec .fail (.ok (.ptr id (Nat.add off (Nat.mul i te.size))) H n) (Nat.ble (Nat.succ i) len)
  | .fpt cs=>Bool.rec .fail (.ok (.fpt (zEJ cs (Nat.mul i te.size))) H n) (Nat.ble (Nat.succ i) len)
  | _=>.fail)
 | _=>.fail) (nat? (zAf T i))
def zHQ (t:Nat) (x i:Operand):Run:=fun E _ T H n=>withT E t fun ti=>Option.rec .fail (fun i=>match ti.c,zAf T x with
 | .arr len e,.agg cs=>withT E e fun te=>Bool.rec .fail (okv (zDP (zC6 te.c) te.size (zEJ cs (Nat.mul i te.size))) H n) (Nat.ble (Nat.succ i) len)
 | .str,.v (.string s)=>(match nth s.data.toList i with | some b=>.ok (.i .u8 (Int.ofNat b.toNat)) H n | none=>.fail)
 | _,_=>.fail) (nat? (zAf T i))
def zCs (x:Operand) (i:Nat):Run:=fun _ _ T H n=>match zAf T x with
 | .tup vs=>okv (nth vs i) H n
 | _=>.fail
def zCt (_:Nat) (r:Option Operand):Run:=fun _ _ _ H n=>match r with
 | none=>.ok (.map n) ((n,.map [])::H) (Nat.succ n)
 | _=>.fail
def keyT (E:Env) (t:Nat) (x:AV) (f:Nat->RV):RV:=withT E t fun ti=>match ti.c with
 | .map k e=>withT E k fun tk=>(match tk.c,x with
  | .int _,.i _ _=>f e
  | .struct _,.agg cs=>Bool.rec .fail (f e) (Bool.and tk.eq (Nat.beq (zJK cs) tk.size))
  | _,_=>.fail)
 | _=>.fail
def zDy (t:Nat) (m k x:Operand):Run:=fun E _ T H n=>keyT E t (zAf T k) fun _=>match zAf T m with
 | .map id=>(match hget H id with
  | some (.map es)=>Option.rec .fail (fun es=>.ok (.v undef) (zK1 H id (.map es)) n) (zJ9 (zAf T k) (zAf T x) es)
  | _=>.fail)
 | _=>.fail
def zIM (e:TI):Option AV:=Bool.rec (zK0 e.zero) (some (.agg e.zero)) (zC6 e.c)
def zDx (t:Nat) (m k:Operand) (ok:Bool):Run:=fun E _ T H n=>keyT E t (zAf T k) fun e=>match zAf T m with
 | .map id=>(match hget H id with
  | some (.map es)=>Option.rec .fail (fun r=>Option.rec
    (withT E e fun te=>Option.rec .fail (fun z=>.ok (Bool.rec z (.tup [z,.b false]) ok) H n) (zIM te))
    (fun v=>.ok (Bool.rec v (.tup [v,.b true]) ok) H n) r) (findKey (zAf T k) es)
  | _=>.fail)
 | _=>.fail
def zR8 (E:Env) (ts:List TypeId) (args:List AV) (H:Hp) (n:Nat):RV:=
 match args,ts with
 | [x],[t]=>withT E t fun ti=>(match ti.c,x with
  | .slice _,x=>okv (zA6 (lenOf x) fun l=>some (.i .i64 (Int.ofNat l))) H n
  | .str,.v (.string s)=>.ok (.i .i64 (Int.ofNat (zJK s.data.toList))) H n
  | _,_=>.fail)
 | _,_=>.fail
def zR7 (E:Env) (ts:List TypeId) (args:List AV) (H:Hp) (n:Nat):RV:=
 match args,ts with
 | [x],[t]=>withT E t fun ti=>(match ti.c,x with
  | .slice _,.sl _ _ _ _ (some c)=>.ok (.i .i64 (Int.ofNat c)) H n
  | .slice _,.v (.slice none _ c)=>.ok (.i .i64 (Int.ofNat c)) H n
  | _,_=>.fail)
 | _,_=>.fail
def zNN (mx:Bool) (args:List AV) (H:Hp) (n:Nat):RV:=
 match args with
 | [.i k a,.i _ b]=>.ok (.i k (Bool.rec (Bool.rec a b (ltI b a)) (Bool.rec a b (ltI a b)) mx)) H n
 | _=>.fail
def zMc (te:TI) (s:AV) (new:List AV) (m:Nat) (H:Hp) (n:Nat):RV:=
 match s with
 | .v (.slice none 0 0)=>.ok (.sl n 0 m te.size none) ((n,.cells new)::H) (Nat.succ n)
 | .sl id off len k cap=>Bool.rec .fail (match hget H id with
  | some (.cells cs)=>(match cap with
   | some c=>Bool.rec
     (Option.rec .fail (fun old=>.ok (.sl n 0 (Nat.add len m) k none) ((n,.cells (app old new))::H) (Nat.succ n)) (zE1 (zEJ cs off) (Nat.mul len k)))
     (Option.rec .fail (fun cs'=>.ok (.sl id off (Nat.add len m) k (some c)) (zK1 H id (.cells cs')) n) (zDY (Nat.add off (Nat.mul len k)) cs new))
     (Nat.ble (Nat.add len m) c)
   | none=>Bool.rec .fail (Option.rec .fail (fun old=>.ok (.sl n 0 (Nat.add len m) k none) ((n,.cells (app old new))::zPj H id) (Nat.succ n)) (zE1 cs (Nat.mul len k))) (Nat.beq off 0))
  | _=>.fail) (Nat.beq k te.size)
 | _=>.fail
def zGU (E:Env) (ts:List TypeId) (args:List AV) (H:Hp) (n:Nat):RV:=
 match args,ts with
 | [s,x],[t,u]=>elemT E t fun te=>withT E u fun tu=>Bool.rec .fail (match tu.c with
  | .int _=>Option.rec .fail (fun m=>Bool.rec (Bool.rec .fail (zMc te s (zTl m te.zero) m H n) (Nat.ble m 16777216)) (.ok s H n) (Nat.beq m 0)) (nat? x)
  | .slice _=>Option.rec .fail (fun m=>Bool.rec (Bool.rec .fail (Option.rec .fail (fun new=>zMc te s new m H n) (zBR H te.size m x)) (Nat.ble m 16777216)) (.ok s H n) (Nat.beq m 0)) (lenOf x)
  | _=>.fail) (Bool.and (Nat.ble te.bytes 65536) (match lenOf s with | some l=>Nat.ble l 16777216 | none=>false))
 | _,_=>.fail
def zNf (E:Env) (ts:List TypeId) (args:List AV) (H:Hp) (n:Nat):RV:=
 match args,ts with
 | [.sl id off len k _,s],[t,_]=>elemT E t fun te=>Bool.rec .fail (Option.rec .fail (fun ls=>(fun m=>Option.rec .fail (fun new=>match hget H id with
   | some (.cells cs)=>Option.rec .fail (fun cs'=>.ok (.i .i64 (Int.ofNat m)) (zK1 H id (.cells cs')) n) (zDY off cs new)
   | _=>.fail) (zBR H te.size m s)) (Bool.rec len ls (Nat.ble ls len))) (lenOf s)) (Nat.beq k te.size)
 | _,_=>.fail
def zDT (bi:Builtin) (ts:Array TypeId) (args:Array Operand):Run:=fun E _ T H n=>
 match bi with
 | .len=>zR8 E ts.toList (zE7 (zAf T) args.toList) H n
 | .append=>zGU E ts.toList (zE7 (zAf T) args.toList) H n
 | .cap=>zR7 E ts.toList (zE7 (zAf T) args.toList) H n
 | .min=>zNN false (zE7 (zAf T) args.toList) H n
 | .max=>zNN true (zE7 (zAf T) args.toList) H n
 | .copy=>zNf E ts.toList (zE7 (zAf T) args.toList) H n
 | _=>.fail
def zIL (f:Operand) (args:Array Operand):Run:=fun _ call T H n=>match zAf T f with
 | .fn f caps=>call f (app (zE7 (zAf T) args.toList) caps) H n
 | _=>.fail
def zNI (c:Call):Run:=Call.rec (motive:=fun _=>Run) (fun callee args ts=>Callee.rec (motive:=fun _=>Run) (fun f=>zIL f args) (fun _ _ _ _ _ _ _=>.fail) (fun b=>zDT b ts args) callee) c
def zDw:Run:=fun _ _ _ _ _=>.fail
def zFY (o:Op):Run:=
 Op.rec (motive:=fun _=>Run) zTc zTc zKb zHN zRt zHO zBv zDy zHe zMS (fun _=>zDw) (fun _=>zDw) zRu zTb xUn zLT (fun _ _=>zDw) (fun _ _=>zDw) zKa zCt (fun _ _=>zDw) zLU zHR zB7 zHP zB8 zHQ zDx zDy (fun _ _ _=>zDw) (fun _ _ _ _=>zDw) (fun _ _=>zDw) (fun _ _=>zDw) (fun _=>zDw) (fun _ _ _ _=>zDw) zCs zNI (fun _=>zDw) (fun _=>zDw) (fun _=>zDw) (fun _ _=>zDw) (fun _ _ _=>zDw) (fun _ _=>zDw) o
def zBj (ops:List Oper) (T:Tm) (g:Option (Nat×Bool)):Option Bool:=
 Option.rec (some true) (fun p=>match nth ops p.1 with
  | some o=>Option.rec (some false) (fun d=>match look T d with
   | .b t=>some (Bool.rec (Bool.not t) t p.2)
   | .v (.tuple _)=>some false
   | _=>none) o.dst
  | none=>some false) g
def put (T:Tm) (dst:Option Nat) (v:AV):Tm:=Option.rec T (fun d=>(d,v)::T) dst
def zGl (E:Env) (call:zAr) (ops:List Oper) (o:Oper) (T:Tm) (H:Hp) (n:Nat) (k:Tm->Hp->Nat->Res):Res:=
 Oper.rec (motive:=fun _=>Res) (fun dst op _ _ _ guard=>
   Option.rec .fail (fun g=>Bool.rec (k (put T dst (.v undef)) H n)
    (RV.rec .fail (fun v H n=>k (put T dst v) H n) (zFY op E call T H n)) g) (zBj ops T guard)) o
def zKw (E:Env) (call:zAr) (ops:List Oper) (os:List Oper):Tm->Hp->Nat->Res:=
 List.rec (motive:=fun _=>Tm->Hp->Nat->Res) (fun T H n=>.ok .nrm T H n) (fun o _ ih T H n=>zGl E call ops o T H n ih) os
def zKh (args:List AV):Nat->Tm:=
 List.rec (motive:=fun _=>Nat->Tm) (fun _=>[]) (fun a _ ih k=>(k,a)::ih (Nat.succ k)) args
def zHc (E:Env) (T:Tm) (H:Hp) (rs:List ResultVar):Option (List AV):=
 List.rec (some []) (fun r _ ih=>zA6 (ResultVar.rec (motive:=fun _=>Option AV) (fun t=>some (look T t)) (fun a t=>zA6 (PT.get none E.ti t) fun ti=>loadAt H (look T a) (zC6 ti.c) ti.size) r) fun v=>zA6 ih fun l=>some (v::l)) rs
def one (l:List AV):AV:=match l with
 | [x]=>x
 | l=>.tup l
def zVP (H:Hp) (f:Nat):AV->List Nat->List Nat:=
 Nat.rec (motive:=fun _=>AV->List Nat->List Nat) (fun _ r=>r) (fun _ ih x r=>match x with
  | .sl id ..=>(match hget H id with | some (.cells cs)=>List.rec (id::r) (fun c _ r=>ih c r) cs | _=>id::r)
  | .ptr id _=>(match hget H id with | some (.cells cs)=>List.rec (id::r) (fun c _ r=>ih c r) cs | _=>id::r)
  | .map id=>(match hget H id with | some (.map es)=>List.rec (id::r) (fun p _ r=>ih p.2 r) es | _=>id::r)
  | .agg cs=>List.rec r (fun c _ r=>ih c r) cs
  | .tup cs=>List.rec r (fun c _ r=>ih c r) cs
  | .fn _ cs=>List.rec r (fun c _ r=>ih c r) cs
  | _=>r) f
def zGs (mode n0:Nat) (v:AV) (H:Hp) (n:Nat):RV:=
 Bool.rec (Bool.rec (.ok v (zDo H n0 (zVP H 8 v [])) n) (.ok v (zKz H n0) n) (Nat.beq mode 1)) (.ok v H n) (Nat.beq mode 0)
def zBN (N:Nat) (c:Code):Bool:=
 match c with
 | .region _ ops _=>ops.toList.all fun o=>match o.dst with | some d=>Nat.ble (Nat.succ d) N | none=>true
 | .seq a b=>zBN N a && zBN N b
 | .cond _ a b=>zBN N a && zBN N b
 | .block _ b=>zBN N b
 | .loop b=>zBN N b
 | .scope b=>zBN N b
 | .rangeFunc ..=>false
 | _=>true
def eqNat? (x y:Option Nat):Bool:=match x,y with | none,none=>true | some a,some b=>Nat.beq a b | _,_=>false
def zKK (x:AV):AV->Bool:=
 AV.rec (motive_1:=fun _=>AV->Bool) (motive_2:=fun _=>List AV->Bool)
  (fun k n y=>match y with | .i k' n'=>Bool.and (Nat.beq (kc k) (kc k')) (eqI n n') | _=>false)
  (fun t y=>match y with | .b t'=>Bool.rec (Bool.not t') t' t | _=>false)
  (fun v y=>match v,y with
   | .slice none 0 0,.v (.slice none 0 0)=>true
   | .pointer none,.v (.pointer none)=>true
   | .nilFunc,.v .nilFunc=>true
   | .string s,.v (.string s')=>s.data.toList == s'.data.toList
   | _,_=>false)
  (fun n y=>match y with | .lim n'=>Nat.beq n n' | _=>false)
  (fun _ l ih y=>match y with | .fsl c' l'=>Bool.and (Nat.beq l l') (ih c') | _=>false)
  (fun _ ih y=>match y with | .fpt c'=>ih c' | _=>false)
  (fun id off len k cap y=>match y with | .sl id' off' len' k' cap'=>Bool.and (Bool.and (Nat.beq id id') (Nat.beq off off')) (Bool.and (Nat.beq len len') (Bool.and (Nat.beq k k') (eqNat? cap cap'))) | _=>false)
  (fun id off y=>match y with | .ptr id' off'=>Bool.and (Nat.beq id id') (Nat.beq off off') | _=>false)
  (fun id y=>match y with | .map id'=>Nat.beq id id' | _=>false)
  (fun _ ih y=>match y with | .agg c'=>ih c' | _=>false)
  (fun _ ih y=>match y with | .tup c'=>ih c' | _=>false)
  (fun f _ ih y=>match y with | .fn f' c'=>Bool.and (Nat.beq f f') (ih c') | _=>false)
  (fun y=>match y with | .any=>true | _=>false)
  (fun ys=>match ys with | []=>true | _=>false)
  (fun _ _ ihx ihr ys=>match ys with | y::ys=>Bool.and (ihx y) (ihr ys) | []=>false) x
def zO4 (x y:HB):Bool:=match x,y with
 | .cells a,.cells b=>zKK (.agg a) (.agg b)
 | _,_=>false
def zAe (o:Op):Nat:=
 match o with
 | .load ..=>1
 | .lookup ..=>1
 | .alloc _=>2
 | .box ..=>2
 | .buildSlice ..=>2
 | .makeSlice ..=>2
 | .makeMap ..=>2
 | .move _=>0
 | .assign _=>0
 | .pick ..=>0
 | .build ..=>0
 | .nilCheck _=>0
 | .binOp ..=>0
 | .unOp ..=>0
 | .convert ..=>0
 | .makeFunc ..=>0
 | .slice ..=>0
 | .fieldAddr ..=>0
 | .field ..=>0
 | .indexAddr ..=>0
 | .index ..=>0
 | .extract ..=>0
 | .call c=>(match c.callee with
  | .builtin .len=>0
  | .builtin .cap=>0
  | .builtin .min=>0
  | .builtin .max=>0
  | _=>3)
 | _=>3
def zAp (ops:List Oper):List Nat:=
 (ops.foldl (fun (acc:List Nat) o=>o.after.toList.foldl (fun s e=>if Region.binds .any e then s ||| 2^e.on ||| (acc.reverse.getD e.on 0) else s) 0::acc) []).reverse
def zCC (ops:List Oper) (o:Oper):List Nat:=
 (o.op.operands.toList.filterMap fun | .tmp t=>some t | _=>none)++(match o.guard with | some (g,_)=>((ops[g]?).bind (·.dst)).toList | none=>[])
def zIg (o:Oper) (i:Nat):Bool:=o.after.toList.any fun e=>e.on == i && Region.binds .any e
def zPG (ops:List Oper):Bool:=
 ops.zipIdx.all fun (o,j)=>(o.after.toList.all fun e=>!Region.binds .any e || Nat.blt e.on j) &&
  ops.zipIdx.all fun (p,i)=>i == j || match p.dst with
   | none=>true
   | some d=>o.dst != some d && ((zCC ops o).all fun t=>t != d || zIg o i || zIg p j)
def zNp (ops:List Oper):Bool:=
 let b:=zAp ops
 ops.zipIdx.all fun (o,j)=>zAe o.op != 3 || ops.zipIdx.all fun (p,i)=>!(Nat.blt i j) || zAe p.op<2 || (b.getD j 0).testBit i ||
  (zAe p.op == 2 && ops.zipIdx.any fun (q,k)=>Nat.blt i k && Nat.blt k j && zAe q.op == 3)
def zF8 (ops:List Oper):List (Nat×Nat):=
 let b:=zAp ops
 ops.zipIdx.flatMap fun (o,j)=>if zAe o.op == 1 then ops.zipIdx.filterMap fun (p,i)=>if zAe p.op == 3 && !((b.getD j 0).testBit i) && !((b.getD i 0).testBit j) then some (j,i) else none else []
def zRY (ops:List Oper):Bool:=
 ops.zipIdx.all fun (o,j)=>zAe o.op != 1 || ops.zipIdx.all fun (p,i)=>Nat.blt i j || match p.dst with
  | none=>true
  | some d=>(zCC ops o).all fun t=>t != d
def zGj (ops:List Oper):Bool:=zPG ops && zNp ops && zRY ops
def zCz (E:Env) (ab:Bool) (t:Nat) (a v:AV) (H:Hp):Bool:=
 match a with
 | .ptr id _=>Option.rec ab (fun _=>Option.rec false (fun ti=>Option.rec false (fun u=>zKK u v) (loadAt H a (zC6 ti.c) ti.size)) (PT.get none E.ti t)) (hget H id)
 | .fpt _=>true
 | _=>false
def zBa (E:Env) (ops:List Oper) (T:Tm) (sn:List (Nat×Hp×Hp)) (p:Nat×Nat):Bool:=
 match nth ops p.1 with
 | some o=>Option.rec false (fun g=>Bool.rec true (match o.op,o.dst with
  | .load t a,some d=>List.rec (motive:=fun _=>Bool) true (fun s _ ih=>Bool.rec ih (Bool.and (Bool.rec (zCz E true t (zAf T a) (look T d) s.2.1) (zCz E false t (zAf T a) (look T d) s.2.2) (Nat.ble p.1 p.2)) ih) (Nat.beq s.1 p.2)) sn
  | _,_=>false) g) (zBj ops T o.guard)
 | none=>false
def zEx (E:Env) (call:zAr) (ops:List Oper) (os:List Oper):Nat->List (Nat×Hp×Hp)->Tm->Hp->Nat->Res:=
 List.rec (motive:=fun _=>Nat->List (Nat×Hp×Hp)->Tm->Hp->Nat->Res)
  (fun _ sn T H n=>Bool.rec .fail (.ok .nrm T H n) (List.rec (motive:=fun _=>Bool) true (fun p _ ih=>Bool.rec false ih (zBa E ops T sn p)) (zF8 ops)))
  (fun o _ ih i sn T H n=>zGl E call ops o T H n fun T' H' n'=>ih (Nat.succ i) (Bool.rec sn ((i,H,H')::sn) (Nat.beq (zAe o.op) 3)) T' H' n') os
def zHa (E:Env) (call:zAr) (ops:Array Oper) (draw:Bool):Tm->Hp->Nat->Res:=fun T H n=>
 Bool.rec (zKw E call ops.toList ops.toList T H n) (Bool.rec .fail (zEx E call ops.toList ops.toList 0 [] T H n) (zGj ops.toList)) draw
abbrev CR:=zAr->Tm->Hp->Nat->Res
def inD (D t:Nat):Bool:=Nat.beq (Nat.mod (Nat.div D (Nat.pow 2 t)) 2) 1
def zG6 (D c:Nat):Tm->Tm:=
 Nat.rec (motive:=fun _=>Tm->Tm) (fun T=>T) (fun _ ih T=>List.rec [] (fun p r _=>Bool.rec (p::ih r) (ih r) (inD D p.1)) T) c
def zGg (ops:List Oper):Nat:=List.rec 0 (fun o _ ih=>Option.rec ih (fun _=>Nat.succ ih) o.dst) ops
def zR0 (E:Env) (D:Nat) (r:CR) (ops:Array Oper) (draw:Bool):Prop:=
 ∀call T H n x T' H' n',r call T H n=.ok x T' H' n'->∃T1,zHa E call ops draw T H n=.ok x T1 H' n'/\T' = zG6 D (zGg ops.toList) T1
theorem zQC (t:Nat):inD 0 t=false:=by
 unfold inD;have:Nat.mod (Nat.div 0 (Nat.pow 2 t)) 2=0:=by
  show (0 / 2^t)%2=0
  simp
 rw [this];rfl
theorem zG7:∀ (c:Nat) (T:Tm),c<=T.length->zG6 0 c T=T
 | 0,T,_=>rfl
 | c+1,[],h=>by cases h
 | c+1,p::T,h=>by
  show (Bool.rec (p::zG6 0 c T) (zG6 0 c T) (inD 0 p.1):Tm)=p::T
  rw [zQC,zG7 c T (Nat.le_of_succ_le_succ h)]
inductive CC (E:Env) (D:Nat) where
 | skip | ret
 | exit (i:Nat)
 | label (l:Nat)
 | seq (a b:CC E D)
 | cond (c:Operand) (a b:CC E D)
 | block (id:Nat) (b:CC E D)
 | loop (b:CC E D)
 | scope (b:CC E D)
 | reg (id:Nat) (ops:Array Oper) (draw:Bool) (r:CR) (h:zR0 E D r ops draw)
 | bad (c:Code)
def zBA {E:Env}{D:Nat}:CC E D->Code
 | .skip=>.skip
 | .ret=>.ret
 | .exit i=>.exit i
 | .label l=>.label l
 | .seq a b=>.seq (zBA a) (zBA b)
 | .cond c a b=>.cond c (zBA a) (zBA b)
 | .block id b=>.block id (zBA b)
 | .loop b=>.loop (zBA b)
 | .scope b=>.scope (zBA b)
 | .reg id ops draw _ _=>.region id ops draw
 | .bad c=>c
structure FD (E:Env) where
 fn:Func
 gc:Nat
 D:Nat
 cc:CC E D
structure Big where
 E:Env
 fn:PT (Option (FD E))
 nat:PT (Option zAz)
 memo:List (Nat×List ME)
def zDg (D:Nat) (args:List AV):Nat->Tm:=
 List.rec (motive:=fun _=>Nat->Tm) (fun _=>[]) (fun a _ ih k=>Bool.rec ((k,a)::ih (Nat.succ k)) (ih (Nat.succ k)) (inD D k)) args
abbrev Ev (E:Env):=(D:Nat)->CC E D->Tm->Hp->Nat->Res
def enter (B:Big) (ev:Ev B.E) (fd:FD B.E) (args:List AV) (H:Hp) (n:Nat):RV:=
 Res.rec .fail (fun x T H' n'=>Ex.rec
   (Option.rec .fail (fun vs=>zGs fd.gc n (one vs) H' n') (zHc B.E T H' fd.fn.results.toList))
   (Option.rec .fail (fun vs=>zGs fd.gc n (one vs) H' n') (zHc B.E T H' fd.fn.results.toList))
   (fun _=>.fail) x) (ev fd.D fd.cc (zDg fd.D args 0) H n)
def ren (s:Nat->Nat) (x:AV):AV:=
 AV.rec (motive_1:=fun _=>AV) (motive_2:=fun _=>List AV) (fun k n=>.i k n) (fun t=>.b t) (fun v=>.v v) (fun n=>.lim n) (fun _ l ih=>.fsl ih l) (fun _ ih=>.fpt ih)
  (fun id off len k cap=>.sl (s id) off len k cap) (fun id off=>.ptr (s id) off) (fun id=>.map (s id)) (fun _ ih=>.agg ih) (fun _ ih=>.tup ih) (fun f _ ih=>.fn f ih) .any
  [] (fun _ _ ih1 ih2=>ih1::ih2) x
def zEK (k:Nat) (x:AV):Bool:=
 AV.rec (motive_1:=fun _=>Bool) (motive_2:=fun _=>Bool) (fun _ _=>true) (fun _=>true) (fun _=>true) (fun _=>true) (fun _ _ ih=>ih) (fun _ ih=>ih)
  (fun id _ _ _ _=>Nat.ble (Nat.succ id) k) (fun id _=>Nat.ble (Nat.succ id) k) (fun id=>Nat.ble (Nat.succ id) k) (fun _ ih=>ih) (fun _ ih=>ih) (fun _ _ ih=>ih) true
  true (fun _ _ ih1 ih2=>Bool.and ih1 ih2) x
def ziq (x:AV):Option Nat:=match x with
 | .sl id _ _ _ _=>some id
 | .ptr id _=>some id
 | .map id=>some id
 | _=>none
def zcW (l:List AV):List AV:=List.rec [] (fun a _ ih=>match a with | .agg cs=>app cs ih | a=>a::ih) l
def zin (fa:List AV) (H:Hp) (s:List Nat) (p:Option Nat×Nat):Option Nat:=
 zA6 (Option.rec (nth fa p.2) (fun j=>zA6 (nth s j) fun id=>zA6 (hget H id) fun b=>match b with | .cells cs=>nth cs p.2 | _=>none) p.1) ziq
def zio (fa:List AV) (H:Hp) (ps:List (Option Nat×Nat)):List Nat->Option (List Nat):=
 List.rec (motive:=fun _=>List Nat->Option (List Nat)) (fun s=>some s) (fun p _ ih s=>zA6 (zin fa H s p) fun id=>ih (app s [id])) ps
def sg (s:List Nat) (n k i:Nat):Nat:=Bool.rec (Nat.add n (Nat.sub i k)) (Option.rec 0 (fun j=>j) (nth s i)) (Nat.ble (Nat.succ i) k)
def zM4 (s:Nat->Nat) (b:HB):HB:=match b with
 | .cells cs=>.cells (zE7 (ren s) cs)
 | .map es=>.map (zE7 (fun p=>(ren s p.1,ren s p.2)) es)
def zQm (s:Nat->Nat) (H:Hp):Hp:=zE7 (fun p=>(s p.1,zM4 s p.2)) H
def zR5 (s:Nat->Nat) (H2:Hp) (H:Hp):Bool:=List.rec true (fun p _ ih=>Bool.and (Option.rec false (fun b=>zO4 (zM4 s p.2) b) (hget H2 (s p.1))) ih) H
def zOb (l:List Nat):Bool:=List.rec true (fun a l ih=>Bool.and (List.rec true (fun b _ ih=>Bool.and (Bool.not (Nat.beq a b)) ih) l) ih) l
def zFe (e:ME) (args:List AV) (H:Hp) (n:Nat) (s:List Nat):Bool:=
 Bool.and (Nat.beq (zJK s) e.k) (Bool.and (zOb s) (Bool.and (zKK (.agg (zE7 (ren (sg s n e.k)) e.args)) (.agg args)) (zR5 (sg s n e.k) H e.H)))
def zTW (e:ME) (args:List AV) (H:Hp) (n:Nat):Option RV:=zA6 (zio (zcW args) H e.paths []) fun s=>
 Bool.rec none (some (.ok (ren (sg s n e.k) e.v) (app (zQm (sg s n e.k) e.new) H) (Nat.add n (Nat.sub e.n' e.k)))) (zFe e args H n s)
def zHv (args:List AV) (H:Hp) (n:Nat) (l:List ME):Option RV:=List.rec none (fun e _ ih=>Option.rec ih (fun r=>some r) (zTW e args H n)) l
def zJz (B:Big) (f:Nat) (args:List AV) (H:Hp) (n:Nat):Option RV:=
 List.rec none (fun p _ ih=>Bool.rec ih (zHv args H n p.2) (Nat.beq p.1 f)) B.memo
def zSk (B:Big) (f:Nat) (args:List AV) (H:Hp):Option AV:=zA6 (PT.get none B.nat f) fun nf=>nf H args
def zEI (B:Big) (ev:Ev B.E):zAr:=fun f args H n=>
 Option.rec (Option.rec (Option.rec .fail (fun fd=>enter B ev fd args H n) (PT.get none B.fn f)) (fun v=>.ok v H n) (zSk B f args H)) (fun r=>r) (zJz B f args H n)
def zMm {E:Env}{D:Nat}(ev:CC E D->Tm->Hp->Nat->Res) (a b:CC E D) (T:Tm) (H:Hp) (n:Nat):Res:=
 Res.rec .fail (fun x T H n=>Ex.rec (ev b T H n) (.ok .ret T H n) (fun i=>.ok (.exit i) T H n) x) (ev a T H n)
def zFV {E:Env}{D:Nat}(ev:CC E D->Tm->Hp->Nat->Res) (c:Operand) (a b:CC E D) (T:Tm) (H:Hp) (n:Nat):Res:=match zAf T c with
 | .b t=>Bool.rec (ev b T H n) (ev a T H n) t
 | _=>.fail
def zC4 {E:Env}{D:Nat}(ev:CC E D->Tm->Hp->Nat->Res) (id:Nat) (b:CC E D) (T:Tm) (H:Hp) (n:Nat):Res:=
 Res.rec .fail (fun x T H n=>Ex.rec (.ok .nrm T H n) (.ok .ret T H n) (fun i=>Bool.rec (.ok (.exit i) T H n) (.ok .nrm T H n) (Nat.beq i id)) x) (ev b T H n)
def zFW {E:Env}{D:Nat}(ev:CC E D->Tm->Hp->Nat->Res) (b:CC E D) (T:Tm) (H:Hp) (n:Nat):Res:=
 Res.rec .fail (fun x T H n=>Ex.rec (ev (.loop b) T H n) (.ok .ret T H n) (fun i=>.ok (.exit i) T H n) x) (ev b T H n)
def evF (B:Big) (ev:Ev B.E):Ev B.E:=fun D c=>
 CC.rec (motive:=fun _=>Tm->Hp->Nat->Res) (Res.ok .nrm) (Res.ok .ret) (fun i=>Res.ok (.exit i)) (fun _=>Res.ok .nrm)
  (fun a b _ _=>zMm (ev D) a b) (fun c a b _ _=>zFV (ev D) c a b) (fun id b _=>zC4 (ev D) id b) (fun b _=>zFW (ev D) b) (fun b _=>ev D b)
  (fun _ _ _ r _=>r (zEI B ev)) (fun _ _ _ _=>.fail) c
def ev (B:Big) (fuel:Nat):Ev B.E:=
 Nat.rec (motive:=fun _=>Ev B.E) (fun _ _ _ _ _=>.fail) (fun _ ih=>evF B ih) fuel
abbrev cI (n:Nat):AV:=.i .i64 (.ofNat n)
abbrev cJ (n:Nat):AV:=.i .i64 (.negSucc n)
abbrev cF:AV:=.b false
abbrev cT:AV:=.b true
open Go.RowKit Pl
abbrev zFv (v:Value):Bool:=v.oneCell'
abbrev Io:=Nat->Option (Nat×Nat)
def zA1 (w:World) (b o:Nat) (vs:List Value):Prop:=∀ (j:Nat) v,vs[j]? = some v->w.cell? ⟨b,o+j,none⟩=some v
mutual
inductive Rel (ι:Io) (fz:Nat->Prop) (w:World):AV->Value->Prop
 | i (k:IntKind) (n:Int):Rel ι fz w (.i k n) (.int k n)
 | b (t:Bool):Rel ι fz w (.b t) (.bool t)
 | v (x:Value):Rel ι fz w (.v x) x
 | any (x:Value):Rel ι fz w .any x
 | lim (n:Nat) (A:Option Addr) (len c:Nat) (h:SL w A len c (zAa n)) (hf:∀ad,A=some ad->0<len->fz ad.block):Rel ι fz w (.lim n) (.slice A len c)
 | fsl (cs:List AV) (vs:List Value) (len b o c:Nat) (hf:fz b) (hc:zA1 w b o vs) (hl:len<=c) (h:zA5 ι fz w true cs vs):Rel ι fz w (.fsl cs len) (.slice (some ⟨b,o,none⟩) len c)
 | fpt (cs:List AV) (vs:List Value) (b o:Nat) (hf:fz b) (hc:zA1 w b o vs) (h:zA5 ι fz w true cs vs):Rel ι fz w (.fpt cs) (.pointer (some ⟨b,o,none⟩))
 | sl (id off len k:Nat) (cap:Option Nat) (b s c:Nat) (hi:ι id=some (b,s)) (hs:off+c*k<=s) (hl:len<=c) (hc:∀m,cap=some m->m=c):Rel ι fz w (.sl id off len k cap) (.slice (some ⟨b,off,none⟩) len c)
 | ptr (id off b s:Nat) (hi:ι id=some (b,s)):Rel ι fz w (.ptr id off) (.pointer (some ⟨b,off,none⟩))
 | map (id b s:Nat) (hi:ι id=some (b,s)):Rel ι fz w (.map id) (.map (some b))
 | agg (cs:List AV) (vs:List Value) (h:zA5 ι fz w true cs vs):Rel ι fz w (.agg cs) (.agg vs.toArray)
 | tup (cs:List AV) (vs:List Value) (h:zA5 ι fz w false cs vs):Rel ι fz w (.tup cs) (.tuple vs.toArray)
 | fn (f:FuncId) (cs:List AV) (vs:List Value) (h:zA5 ι fz w false cs vs):Rel ι fz w (.fn f cs) (.func (.func f) #[] vs.toArray)
inductive zA5 (ι:Io) (fz:Nat->Prop) (w:World):Bool->List AV->List Value->Prop
 | nil (c:Bool):zA5 ι fz w c [] []
 | cons (c:Bool) (x:AV) (v:Value) (xs:List AV) (vs:List Value) (h:Rel ι fz w x v) (hc:c=true->zFv v=true) (hs:zA5 ι fz w c xs vs):zA5 ι fz w c (x::xs) (v::vs)
end
theorem zFr {w w':World}{b o:Nat}{vs:List Value}(h:zA1 w b o vs) (hw:w'.heap[b]? = w.heap[b]?):zA1 w' b o vs:=by
 intro j v hv;rw [<- h j v hv];simp only [World.cell?,hw]
theorem zTP {w w':World}{A:Option Addr}{n c:Nat}{l:List Nat}(h:SL w A n c l) (hw:∀ad,A=some ad->0<n->w'.heap[ad.block]? = w.heap[ad.block]?):SL w' A n c l:=
 ⟨h.len,h.cap,h.max,h.lt,fun hn=>by
  obtain ⟨b,off,e,hb,hc⟩:=h.at_ hn;have hh:=hw _ e hn;refine ⟨b,off,e,?_,fun j x hj=>?_⟩
  ·have h1:w.heap[b]? = some w.heap[b]:=Array.getElem?_eq_getElem hb
   simp only at hh;rw [h1] at hh;exact (Yv.1 hh).1
  ·rw [<- hc j x hj]
   simp only [World.cell?];simp only at hh;rw [hh]⟩
mutual
theorem Rel.mono {ι ι':Io}{fz fz':Nat->Prop}{w w':World}(hι:∀i p,ι i=some p->ι' i=some p) (hf:∀b,fz b->fz' b) (hw:∀b,fz b->w'.heap[b]? = w.heap[b]?) :
  ∀ {x:AV}{v:Value},Rel ι fz w x v->Rel ι' fz' w' x v
 | _,_,.i k n=>.i k n
 | _,_,.b t=>.b t
 | _,_,.v x=>.v x
 | _,_,.any x=>.any x
 | _,_,.lim n A len c h hfz=>.lim n A len c (zTP h fun ad e hl=>hw _ (hfz ad e hl)) fun ad e hl=>hf _ (hfz ad e hl)
 | _,_,.fsl cs vs len b o c hfz hc hl h=>.fsl cs vs len b o c (hf _ hfz) (zFr hc (hw _ hfz)) hl (zA5.mono hι hf hw h)
 | _,_,.fpt cs vs b o hfz hc h=>.fpt cs vs b o (hf _ hfz) (zFr hc (hw _ hfz)) (zA5.mono hι hf hw h)
 | _,_,.sl id off len k cap b s c hi hs hl hc=>.sl id off len k cap b s c (hι _ _ hi) hs hl hc
 | _,_,.ptr id off b s hi=>.ptr id off b s (hι _ _ hi)
 | _,_,.map id b s hi=>.map id b s (hι _ _ hi)
 | _,_,.agg cs vs h=>.agg cs vs (zA5.mono hι hf hw h)
 | _,_,.tup cs vs h=>.tup cs vs (zA5.mono hι hf hw h)
 | _,_,.fn f cs vs h=>.fn f cs vs (zA5.mono hι hf hw h)
theorem zA5.mono {ι ι':Io}{fz fz':Nat->Prop}{w w':World}(hι:∀i p,ι i=some p->ι' i=some p) (hf:∀b,fz b->fz' b) (hw:∀b,fz b->w'.heap[b]? = w.heap[b]?) :
  ∀ {c:Bool}{xs:List AV}{vs:List Value},zA5 ι fz w c xs vs->zA5 ι' fz' w' c xs vs
 | _,_,_,.nil c=>.nil c
 | _,_,_,.cons c x v xs vs h hc hs=>.cons c x v xs vs (Rel.mono hι hf hw h) hc (zA5.mono hι hf hw hs)
end
section
variable {ι:Io}{fz:Nat->Prop}{w:World}
theorem zA5.len {c:Bool}:∀ {xs:List AV}{vs:List Value},zA5 ι fz w c xs vs->xs.length=vs.length
 | _,_,.nil _=>rfl
 | _,_,.cons _ _ _ _ _ _ _ hs=>by simp [hs.len]
theorem zA5.get {c:Bool}:∀ {xs:List AV}{vs:List Value},zA5 ι fz w c xs vs->∀ {j:Nat}{x:AV},xs[j]? = some x->∃v,vs[j]? = some v/\Rel ι fz w x v/\(c=true->zFv v=true)
 | _,_,.nil _,j,x,h=>by simp at h
 | _,_,.cons _ _ v _ _ h hc hs,0,x,e=>by simp at e;subst e;exact ⟨v,by simp,h,hc⟩
 | _,_,.cons _ _ v _ _ h hc hs,j+1,x,e=>by
  obtain ⟨u,h1,h2⟩:=hs.get (j:=j) (x:=x) (by simpa using e);exact ⟨u,by simpa using h1,h2⟩
theorem zA5.append {c:Bool}:∀ {xs:List AV}{vs:List Value},zA5 ι fz w c xs vs->∀ {ys:List AV}{us:List Value},zA5 ι fz w c ys us->zA5 ι fz w c (xs++ys) (vs++us)
 | _,_,.nil _,_,_,h=>h
 | _,_,.cons c x v xs vs h hc hs,_,_,h'=>.cons c x v _ _ h hc (hs.append h')
theorem zA5.drop {c:Bool}:∀ {xs:List AV}{vs:List Value},zA5 ι fz w c xs vs->∀ (n:Nat),zA5 ι fz w c (xs.drop n) (vs.drop n)
 | _,_,h,0=>h
 | _,_,.nil c,n+1=>.nil c
 | _,_,.cons c x v xs vs h hc hs,n+1=>by simpa using hs.drop n
theorem zA5.take {c:Bool}:∀ {xs:List AV}{vs:List Value},zA5 ι fz w c xs vs->∀ (n:Nat),zA5 ι fz w c (xs.take n) (vs.take n)
 | _,_,_,0=>by simpa using zA5.nil c
 | _,_,.nil c,n+1=>by simpa using zA5.nil c
 | _,_,.cons c x v xs vs h hc hs,n+1=>by simpa using zA5.cons c x v _ _ h hc (hs.take n)
theorem zA5.cells {c:Bool}:∀ {xs:List AV}{vs:List Value},zA5 ι fz w c xs vs->c=true->∀v∈vs,zFv v=true
 | _,_,.nil _,_,v,hv=>by cases hv
 | _,_,.cons _ x u xs vs h hc hs,e,v,hv=>by
  cases hv with
  | head=>exact hc e
  | tail _ hv=>exact hs.cells e v hv
theorem zA5.single {c:Bool}{x:AV}{v:Value}(h:Rel ι fz w x v) (hc:c=true->zFv v=true):zA5 ι fz w c [x] [v]:=.cons c x v [] [] h hc (.nil c)
end
theorem zBY {w:World}{b o:Nat}{vs:List Value}(h:zA1 w b o vs) (n:Nat):zA1 w b (o+n) (vs.drop n):=by
 intro j v hv;rw [List.getElem?_drop] at hv;rw [Nat.add_assoc];exact h _ v hv
structure Gl where
 B:Nat->Prop
 p:World->Prop
 keep:∀w w',p w->(∀b,B b->w'.heap[b]? = w.heap[b]?)->p w'
inductive zJN (ι:Io) (fz:Nat->Prop) (w:World):List (AV×AV)->List MapEntry->Prop
 | nil:zJN ι fz w [] []
 | cons (p:AV×AV) (e:MapEntry) (ps:List (AV×AV)) (es:List MapEntry) (hk:Rel ι fz w p.1 e.key) (hv:Rel ι fz w p.2 e.val) (h:zJN ι fz w ps es):zJN ι fz w (p::ps) (e::es)
theorem zJN.mono {ι ι':Io}{fz fz':Nat->Prop}{w w':World}(hι:∀i p,ι i=some p->ι' i=some p) (hf:∀b,fz b->fz' b) (hw:∀b,fz b->w'.heap[b]? = w.heap[b]?) {ps:List (AV×AV)}{es:List MapEntry}
  (h:zJN ι fz w ps es):zJN ι' fz' w' ps es:=by
 induction h with
 | nil=>exact .nil
 | cons p e ps es hk hv _ ih=>exact .cons p e ps es (hk.mono hι hf hw) (hv.mono hι hf hw) ih
def zJH (ι:Io) (fz:Nat->Prop) (w:World) (b s:Nat):HB->Prop
 | .cells cs=>∃vs rest t,w.heap[b]? = some (.cells (vs++rest).toArray t (0,0))/\zA5 ι fz w true cs vs/\(vs++rest).length=s
 | .map es=>∃ms clock,w.heap[b]? = some (.map ms.toArray clock)/\zJN ι fz w es ms
theorem zJH.mono {ι ι':Io}{fz fz':Nat->Prop}{w w':World}(hι:∀i p,ι i=some p->ι' i=some p) (hf:∀b,fz b->fz' b) (hw:∀b,fz b->w'.heap[b]? = w.heap[b]?) {b s:Nat}{hb:HB}
  (h:zJH ι fz w b s hb) (he:w'.heap[b]? = w.heap[b]?):zJH ι' fz' w' b s hb:=by
 cases hb with
 | cells cs=>
  obtain ⟨vs,rest,t,h1,h2,h3⟩:=h;exact ⟨vs,rest,t,he.trans h1,h2.mono hι hf hw,h3⟩
 | map es=>
  obtain ⟨ms,clock,h1,h2⟩:=h;exact ⟨ms,clock,he.trans h1,h2.mono hι hf hw⟩
theorem zJH.lt {ι:Io}{fz:Nat->Prop}{w:World}{b s:Nat}{hb:HB}(h:zJH ι fz w b s hb):b<w.heap.size:=by
 cases hb with
 | cells cs=>obtain ⟨vs,rest,t,h1,_⟩:=h;exact (Yv.1 h1).1
 | map es=>obtain ⟨ms,clock,h1,_⟩:=h;exact (Yv.1 h1).1
structure Inv (G:Gl) (ι:Io) (fz:Nat->Prop) (M:Nat->Option HB) (w:World):Prop where
 blk:∀id hb,M id=some hb->∃b s,ι id=some (b,s)/\¬ fz b/\zJH ι fz w b s hb
 inj:∀i j hi hj b s s',M i=some hi->M j=some hj->ι i=some (b,s)->ι j=some (b,s')->i=j
 fzlt:∀b,fz b->b<w.heap.size
 gb:∀b,G.B b->fz b
 gp:G.p w
theorem Inv.sub {G:Gl}{ι:Io}{fz:Nat->Prop}{M M':Nat->Option HB}{w:World}(h:Inv G ι fz M w) (hs:∀id hb,M' id=some hb->M id=some hb):Inv G ι fz M' w:=
 ⟨fun id hb e=>h.blk id hb (hs _ _ e),fun i j hi hj b s s' e1 e2=>h.inj i j hi hj b s s' (hs _ _ e1) (hs _ _ e2),h.fzlt,h.gb,h.gp⟩
def Trk (M:Nat->Option HB) (ι:Io) (b:Nat):Prop:=∃id hb s,M id=some hb/\ι id=some (b,s)
structure zB1 (G:Gl) (ι:Io) (fz:Nat->Prop) (M:Nat->Option HB) (n:Nat) (w:World) (ι':Io) (fz':Nat->Prop) (M':Nat->Option HB) (n':Nat) (w':World):Prop where
 ext:∀i p,ι i=some p->ι' i=some p
 out:∀i,(i<n\/n' <= i)->ι' i=ι i
 fzm:∀b,fz b->fz' b
 fzn:∀b,fz' b->fz b\/w.heap.size<=b
 size:w.heap.size<=w'.heap.size
 keep:∀b,b<w.heap.size->¬ Trk M ι b->w'.heap[b]? = w.heap[b]?
 os:w'.os=w.os
 tape:w'.tape=w.tape
 output:w'.output=w.output
 trk:∀b,Trk M' ι' b->Trk M ι b\/w.heap.size<=b
 inv:Inv G ι' fz' M' w'
section
variable {G:Gl}{ι ι1 ι2:Io}{fz fz1 fz2:Nat->Prop}{M M1 M2:Nat->Option HB}{n n1 n2:Nat}{w w1 w2:World}
theorem Inv.not_trk (h:Inv G ι fz M w) {b:Nat}(hb:fz b):¬ Trk M ι b:=by
 rintro ⟨id,hb',s,e,hi⟩
 obtain ⟨b',s',hi',hn,_⟩:=h.blk id hb' e;rw [hi] at hi';injection hi' with e'
 injection e' with e1 e2
 subst e1;exact hn hb
theorem zB1.fz_same (hI:Inv G ι fz M w) (h:zB1 G ι fz M n w ι1 fz1 M1 n1 w1) (b:Nat) (hb:fz b):w1.heap[b]? = w.heap[b]?:=h.keep b (hI.fzlt b hb) (hI.not_trk hb)
theorem zB1.rel (hI:Inv G ι fz M w) (h:zB1 G ι fz M n w ι1 fz1 M1 n1 w1) {x:AV}{v:Value}(hr:Rel ι fz w x v):Rel ι1 fz1 w1 x v:=hr.mono h.ext h.fzm (h.fz_same hI)
theorem zB1.refl (hI:Inv G ι fz M w) (n:Nat):zB1 G ι fz M n w ι fz M n w:=
 ⟨fun _ _ h=>h,fun _ _=>rfl,fun _ h=>h,fun _ h=>.inl h,Ya _,fun _ _ _=>rfl,rfl,rfl,rfl,fun _ h=>.inl h,hI⟩
theorem zB1.trans (h:zB1 G ι fz M n w ι1 fz1 M1 n1 w1) (h':zB1 G ι1 fz1 M1 n1 w1 ι2 fz2 M2 n2 w2) (hn:n<=n1) (hn':n1<=n2):zB1 G ι fz M n w ι2 fz2 M2 n2 w2 where
 ext i p e:=h'.ext i p (h.ext i p e)
 out i hi:=by
  rw [h'.out i (by omega),h.out i (by omega)]
 fzm b hb:=h'.fzm b (h.fzm b hb)
 fzn b hb:=by
  rcases h'.fzn b hb with h1 | h1
  ·exact h.fzn b h1
  ·exact .inr (Yq h.size h1)
 size:=Yq h.size h'.size
 keep b hb hn:=by
  rw [h'.keep b (by have:=h.size;omega) (fun ht=>by
   rcases h.trk b ht with h1 | h1
   ·exact hn h1
   ·omega),h.keep b hb hn]
 os:=h'.os.trans h.os
 tape:=h'.tape.trans h.tape
 output:=h'.output.trans h.output
 trk b hb:=by
  rcases h'.trk b hb with h1 | h1
  ·exact h.trk b h1
  ·exact .inr (Yq h.size h1)
 inv:=h'.inv
theorem zB1.sub (h:zB1 G ι fz M n w ι1 fz1 M1 n1 w1) (hs:∀id hb,M2 id=some hb->M1 id=some hb):zB1 G ι fz M n w ι1 fz1 M2 n1 w1:=
 ⟨h.ext,h.out,h.fzm,h.fzn,h.size,h.keep,h.os,h.tape,h.output,fun b ⟨id,hb,s,e,hi⟩=>h.trk b ⟨id,hb,s,hs _ _ e,hi⟩,h.inv.sub hs⟩
theorem zB1.up (hI:Inv G ι fz M w) (hs:∀id hb,M1 id=some hb->M id=some hb) (h:zB1 G ι fz M1 n w ι1 fz1 M2 n1 w1)
  (hfresh:∀i,n<=i->i<n1->ι i=none) :
  zB1 G ι fz M n w ι1 fz1 (fun id=>match M2 id with | some hb=>some hb | none=>if M1 id=none then M id else none) n1 w1:=by
 have hfz:∀b,fz b->w1.heap[b]? = w.heap[b]?:=fun b hb=>h.keep b (hI.fzlt b hb) (fun ⟨id,hb',s,e,hi⟩=>hI.not_trk hb ⟨id,hb',s,hs _ _ e,hi⟩)
 have old:∀id hb,M id=some hb->M1 id=none->∃b s,ι id=some (b,s)/\¬ Trk M1 ι b/\b<w.heap.size/\¬ fz b/\zJH ι fz w b s hb:=by
  intro id hb e e1;obtain ⟨b,s,hi,hn,hk⟩:=hI.blk id hb e;refine ⟨b,s,hi,?_,hk.lt,hn,hk⟩;rintro ⟨j,hj,s',ej,hij⟩
  have:=hI.inj id j hb hj b s s' e (hs _ _ ej) hi hij;subst this;rw [e1] at ej;cases ej
 refine ⟨h.ext,h.out,h.fzm,h.fzn,h.size,fun b hb hn=>h.keep b hb (fun ⟨id,hb',s,e,hi⟩=>hn ⟨id,hb',s,hs _ _ e,hi⟩),h.os,h.tape,h.output,?_,?_⟩
 ·rintro b ⟨id,hb,s,e,hi⟩
  simp only at e
  split at e
  ·rename_i hb2 e2
   rcases h.trk b ⟨id,hb2,s,e2,hi⟩ with ⟨j,hj,s',ej,hij⟩ | h1
   ·exact .inl ⟨j,hj,s',hs _ _ ej,hij⟩
   ·exact .inr h1
  ·split at e
   ·rename_i e1
    obtain ⟨b',s',hi',_,_,_,_⟩:=old id hb e e1;have h2:=h.ext _ _ hi';rw [hi] at h2;injection h2 with h2
    injection h2 with h2 h3
    subst h2;exact .inl ⟨id,hb,s',e,hi'⟩
   ·cases e
 ·refine ⟨fun id hb e=>?_,fun i j hi hj b s s' e1 e2 e3 e4=>?_,h.inv.fzlt,h.inv.gb,h.inv.gp⟩
  ·try simp only at e
   split at e
   ·rename_i hb2 e2
    injection e with e
    subst e;exact h.inv.blk id hb2 e2
   ·split at e
    ·rename_i e1
     obtain ⟨b,s,hi,ht,hlt,hn,hk⟩:=old id hb e e1;refine ⟨b,s,h.ext _ _ hi,fun hf=>?_,hk.mono h.ext h.fzm hfz (h.keep b hlt ht)⟩;rcases h.fzn b hf with h1 | h1
     ·exact hn h1
     ·omega
    ·cases e
  ·
   have cls:∀i hi b s,(match M2 i with | some hb=>some hb | none=>if M1 i=none then M i else none)=some hi->ι1 i=some (b,s)->
     (∃h2,M2 i=some h2)\/(∃s',M2 i=none/\M1 i=none/\M i=some hi/\ι i=some (b,s')/\¬ Trk M1 ι b/\b<w.heap.size):=by
    intro i hi b s e e3
    split at e
    ·rename_i hb2 e2;exact .inl ⟨hb2,e2⟩
    ·rename_i e2
     split at e
     ·rename_i e1
      obtain ⟨b',s',hi',ht,hlt,_,_⟩:=old i hi e e1;have h2:=h.ext _ _ hi';rw [e3] at h2;injection h2 with h2
      injection h2 with h2 h3
      subst h2;exact .inr ⟨s',e2,e1,e,hi',ht,hlt⟩
     ·cases e
   rcases cls i hi b s e1 e3 with ⟨a,ea⟩ | ⟨t,ea0,ea,eb,ec,ed,el⟩
   ·rcases cls j hj b s' e2 e4 with ⟨a',ea'⟩ | ⟨t',ea0',ea',eb',ec',ed',el'⟩
    ·exact h.inv.inj i j a a' b s s' ea ea' e3 e4
    ·rcases h.trk b ⟨i,a,s,ea,e3⟩ with h1 | h1
     ·exact absurd h1 ed'
     ·omega
   ·rcases cls j hj b s' e2 e4 with ⟨a',ea'⟩ | ⟨t',ea0',ea',eb',ec',ed',el'⟩
    ·rcases h.trk b ⟨j,a',s',ea',e4⟩ with h1 | h1
     ·exact absurd h1 ed
     ·omega
    ·exact hI.inj i j hi hj b t t' eb eb' ec ec'
end
section
variable {α β:Type}
theorem zBr:∀ (n:Nat) (l:List α),zEJ l n=l.drop n
 | 0,l=>rfl
 | n+1,[]=>rfl
 | n+1,_::r=>zBr n r
theorem zGN:∀ (n:Nat) (l:List α),zI9 l n=l.take n
 | 0,l=>by rw [List.take_zero];rfl
 | n+1,[]=>rfl
 | n+1,a::r=>congrArg (a::·) (zGN n r)
theorem zCx:∀ (l:List α),zJK l=l.length
 | []=>rfl
 | _::r=>congrArg Nat.succ (zCx r)
theorem zGG:∀ (l:List α),zK0 l=l.head?
 | []=>rfl
 | _::_=>rfl
theorem zE9 (l:List α) (n:Nat):nth l n=l[n]?:=by
 unfold nth;rw [zGG,zBr,List.head?_drop]
theorem zCN (f:α->β):∀ (l:List α),zE7 f l=l.map f
 | []=>rfl
 | a::r=>congrArg (f a::·) (zCN f r)
theorem zEq:∀ (a b:List α),app a b=a++b
 | [],_=>rfl
 | x::a,b=>congrArg (x::·) (zEq a b)
theorem zAW {x:Option α}{f:α->Option β}{y:β}(h:zA6 x f=some y):∃a,x=some a/\f a=some y:=by
 cases x with
 | none=>cases h
 | some a=>exact ⟨a,rfl,h⟩
end
theorem zQR (k:Nat):look [] k=.any:=rfl
theorem zBO (i:Nat) (v:AV) (T:Tm) (k:Nat):look ((i,v)::T) k=if i=k then v else look T k:=by
 show (Bool.rec (look T k) v (Nat.beq i k):AV)=_
 cases h:Nat.beq i k
 ·have:i≠k:=fun e=>by subst e;simp at h
  simp [this]
 ·have:i=k:=Yg h
  simp [this]
theorem zGI (k:Nat):hget [] k=none:=rfl
theorem zAY (i:Nat) (v:HB) (H:Hp) (k:Nat):hget ((i,v)::H) k=if i=k then some v else hget H k:=by
 show (Bool.rec (hget H k) (some v) (Nat.beq i k):Option HB)=_
 cases h:Nat.beq i k
 ·have:i≠k:=fun e=>by subst e;simp at h
  simp [this]
 ·have:i=k:=Yg h
  simp [this]
theorem zJk (i:Nat) (v:HB) (H:Hp) (k:Nat) (x:HB):zK1 ((i,v)::H) k x=if i=k then (i,x)::H else (i,v)::zK1 H k x:=by
 show (Bool.rec ((i,v)::zK1 H k x) ((i,x)::H) (Nat.beq i k):Hp)=_
 cases h:Nat.beq i k
 ·have:i≠k:=fun e=>by subst e;simp at h
  simp [this]
 ·have:i=k:=Yg h
  simp [this]
theorem zJj (i:Nat) (v:HB) (H:Hp) (k:Nat):zPj ((i,v)::H) k=if i=k then H else (i,v)::zPj H k:=by
 show (Bool.rec ((i,v)::zPj H k) H (Nat.beq i k):Hp)=_
 cases h:Nat.beq i k
 ·have:i≠k:=fun e=>by subst e;simp at h
  simp [this]
 ·have:i=k:=Yg h
  simp [this]
theorem zHw (p:Nat×HB) (H:Hp) (n:Nat):zKz (p::H) n=if n<=p.1 then zKz H n else p::H:=by
 show (Bool.rec (p::H) (zKz H n) (Nat.ble n p.1):Hp)=_
 cases h:Nat.ble n p.1
 ·have:¬ n<=p.1:=fun e=>by rw [Nat.ble_eq_true_of_le e] at h;cases h
  simp [this]
 ·have:n<=p.1:=Ym h
  simp [this]
def zBc:Nat->Hp->Prop
 | _,[]=>True
 | n,(i,_)::r=>i<n/\zBc i r
theorem zBc.le {n m:Nat}{H:Hp}(h:zBc n H) (hm:n<=m):zBc m H:=by
 cases H with
 | nil=>trivial
 | cons p r=>exact ⟨Yh h.1 hm,h.2⟩
theorem zBc.lt {n:Nat}{H:Hp}(h:zBc n H) {k:Nat}{hb:HB}(e:hget H k=some hb):k<n:=by
 induction H generalizing n with
 | nil=>cases e
 | cons p r ih=>
  obtain ⟨i,v⟩:=p;rw [zAY] at e
  split at e
  ·rename_i hik;subst hik;exact h.1
  ·exact Nat.lt_trans (ih h.2 e) h.1
theorem zBc.none {n:Nat}{H:Hp}(h:zBc n H) {k:Nat}(hk:n<=k):hget H k=none:=by
 cases e:hget H k with
 | none=>rfl
 | some hb=>have:=h.lt e;omega
theorem zBc.new {n:Nat}{H:Hp}(h:zBc n H) (hb:HB):zBc (n+1) ((n,hb)::H):=⟨Nat.lt_succ_self n,h⟩
theorem zBc.set {n:Nat}{H:Hp}(h:zBc n H) (k:Nat) (x:HB):zBc n (zK1 H k x):=by
 induction H generalizing n with
 | nil=>trivial
 | cons p r ih=>
  obtain ⟨i,v⟩:=p;rw [zJk]
  split
  ·exact ⟨h.1,h.2⟩
  ·exact ⟨h.1,ih h.2⟩
theorem zBc.del {n:Nat}{H:Hp}(h:zBc n H) (k:Nat):zBc n (zPj H k):=by
 induction H generalizing n with
 | nil=>trivial
 | cons p r ih=>
  obtain ⟨i,v⟩:=p;rw [zJj]
  split
  ·exact h.2.le (Nat.le_of_lt h.1)
  ·exact ⟨h.1,ih h.2⟩
theorem zBc.drop {n:Nat}{H:Hp}(h:zBc n H) (m:Nat):zBc n (zKz H m):=by
 induction H generalizing n with
 | nil=>trivial
 | cons p r ih=>
  obtain ⟨i,v⟩:=p;rw [zHw]
  split
  ·exact (ih h.2).le (Nat.le_of_lt h.1)
  ·exact h
theorem zLq (H:Hp) (k:Nat) (x:HB) (j:Nat):hget (zK1 H k x) j=if j=k then (hget H k).map (fun _=>x) else hget H j:=by
 induction H with
 | nil=>simp [zK1,zGI]
 | cons p r ih=>
  obtain ⟨i,v⟩:=p;rw [zJk];by_cases hik:i=k
  ·subst hik
   rw [if_pos rfl,zAY,zAY];by_cases hj:i=j
   ·subst hj;simp
   ·rw [if_neg hj,zAY,if_neg hj,if_neg (Ne.symm hj)]
  ·rw [if_neg hik,zAY,ih]
   by_cases hj:i=j
   ·subst hj;rw [if_pos rfl,if_neg hik,zAY,if_pos rfl]
   ·rw [if_neg hj,zAY,if_neg hik,zAY,if_neg hj]
theorem zIh {n:Nat}{H:Hp}(h:zBc n H) (k j:Nat):hget (zPj H k) j=if j=k then none else hget H j:=by
 induction H generalizing n with
 | nil=>simp [zPj,zGI]
 | cons p r ih=>
  obtain ⟨i,v⟩:=p;rw [zJj];by_cases hik:i=k
  ·subst hik
   rw [if_pos rfl,zAY];by_cases hj:j=i
   ·subst hj;rw [if_pos rfl];exact h.2.none (Ya _)
   ·rw [if_neg hj,if_neg (Ne.symm hj)]
  ·rw [if_neg hik,zAY,ih h.2]
   by_cases hj:i=j
   ·subst hj;rw [if_pos rfl,if_neg hik,zAY,if_pos rfl]
   ·rw [if_neg hj,zAY,if_neg hj]
theorem zN7 {n:Nat}{H:Hp}(h:zBc n H) (m j:Nat) (hb:HB) (e:hget (zKz H m) j=some hb):hget H j=some hb:=by
 induction H generalizing n with
 | nil=>exact e
 | cons p r ih=>
  obtain ⟨i,v⟩:=p;rw [zHw] at e
  split at e
  ·have h1:=ih h.2 e
   have h2:=h.2.lt h1;rw [zAY,if_neg (by omega)];exact h1
  ·exact e
theorem zHx (p:Nat×HB) (H:Hp) (n:Nat) (l:List Nat):zDo (p::H) n l=p::H\/zDo (p::H) n l=zDo H n l\/zDo (p::H) n l=p::zDo H n l:=by
 show (Bool.rec (p::H) (Bool.rec (zDo H n l) (p::zDo H n l) (List.rec false (fun a _ ih=>Bool.rec ih true (Nat.beq a p.1)) l)) (Nat.ble n p.1):Hp)=_\/(Bool.rec (p::H) (Bool.rec (zDo H n l) (p::zDo H n l) (List.rec false (fun a _ ih=>Bool.rec ih true (Nat.beq a p.1)) l)) (Nat.ble n p.1):Hp)=_\/(Bool.rec (p::H) (Bool.rec (zDo H n l) (p::zDo H n l) (List.rec false (fun a _ ih=>Bool.rec ih true (Nat.beq a p.1)) l)) (Nat.ble n p.1):Hp)=_
 cases Nat.ble n p.1
 ·exact .inl rfl
 ·cases (List.rec false (fun a _ ih=>Bool.rec ih true (Nat.beq a p.1)) l:Bool)
  ·exact .inr (.inl rfl)
  ·exact .inr (.inr rfl)
theorem zBc.keep {n:Nat}{H:Hp}(h:zBc n H) (m:Nat) (l:List Nat):zBc n (zDo H m l):=by
 induction H generalizing n with
 | nil=>trivial
 | cons p r ih=>
  obtain ⟨i,v⟩:=p;rcases zHx (i,v) r m l with e | e | e <;> rw [e]
  ·exact h
  ·exact (ih h.2).le (Nat.le_of_lt h.1)
  ·exact ⟨h.1,ih h.2⟩
theorem zN8 {n:Nat}{H:Hp}(h:zBc n H) (m:Nat) (l:List Nat) (j:Nat) (hb:HB) (e:hget (zDo H m l) j=some hb):hget H j=some hb:=by
 induction H generalizing n with
 | nil=>exact e
 | cons p r ih=>
  obtain ⟨i,v⟩:=p;rcases zHx (i,v) r m l with e1 | e1 | e1 <;> rw [e1] at e
  ·exact e
  ·have h1:=ih h.2 e
   have h2:=h.2.lt h1;rw [zAY,if_neg (by omega)];exact h1
  ·rw [zAY] at e ⊢
   split at e
   ·rename_i hij;rw [if_pos hij];exact e
   ·rename_i hij;rw [if_neg hij];exact ih h.2 e
theorem zFB:∀ {cs vs l:List AV},zGJ cs vs=some l->vs.length<=cs.length/\l=vs++cs.drop vs.length
 | [],[],l,h=>by cases h;simp
 | [],_::_,l,h=>by cases h
 | c::r,[],l,h=>by cases h;simp
 | c::r,v::vs,l,h=>by
  change (Option.rec none (fun l=>some (v::l)) (zGJ r vs):Option (List AV))=some l at h
  cases e:zGJ r vs with
  | none=>rw [e] at h;cases h
  | some l'=>
   rw [e] at h;injection h with h
   obtain ⟨h1,h2⟩:=zFB e;subst h h2
   simpa using h1
theorem zB6:∀ {n:Nat}{cs vs l:List AV},zDY n cs vs=some l->n+vs.length<=cs.length/\l=cs.take n++vs++cs.drop (n+vs.length)
 | 0,cs,vs,l,h=>by
  have:=zFB (cs:=cs) (vs:=vs) h
  simpa using this
 | n+1,[],vs,l,h=>by cases h
 | n+1,c::r,vs,l,h=>by
  change (Option.rec none (fun l=>some (c::l)) (zDY n r vs):Option (List AV))=some l at h
  cases e:zDY n r vs with
  | none=>rw [e] at h;cases h
  | some l'=>
   rw [e] at h;injection h with h
   obtain ⟨h1,h2⟩:=zB6 e;subst h h2;refine ⟨by simp;omega,?_⟩;simp [Nat.add_right_comm n 1]
def zFN (ι:Io) (fz:Nat->Prop) (w:World) (T:Tm) (a:Act):Prop:=∀t,Rel ι fz w (look T t) (a.tmps.getD t undef)
section
variable {ι:Io}{fz:Nat->Prop}{w:World}
theorem zFN.put {T:Tm}{a:Act}(h:zFN ι fz w T a) {dst:Option Nat}(hd:∀d,dst=some d->d<a.tmps.size) {x:AV}{v:Value}(hv:Rel ι fz w x v):zFN ι fz w (Go.Proofs.YtchkfjgcbbbffaaGreatDoor.put T dst x) (a.put dst v):=by
 cases dst with
 | none=>exact h
 | some d=>
  intro t
  change Rel ι fz w (look ((d,x)::T) t) ((a.tmps.setIfInBounds d v).getD t undef)
  rw [zBO];by_cases hdt:d=t
  ·subst hdt
   have:=hd d rfl
   simpa [this] using hv
  ·rw [if_neg hdt]
   have:=h t
   simpa [Xb hdt] using this
theorem zFC (a:Act) (dst:Option Nat) (v:Value):(a.put dst v).tmps.size=a.tmps.size:=by
 cases dst <;> simp [Act.put]
theorem zFh (a:Act) (dst:Option Nat) (v:Value):(a.put dst v).defers=a.defers:=by
 cases dst <;> simp [Act.put]
theorem zOd (x:Value):Rel ι fz w (ofV x) x:=by
 unfold ofV
 split
 ·exact .i _ _
 ·exact .b _
 ·exact .any _
 ·rename_i f first caps
  split
  ·rename_i h1 h2
   have e1:first=#[]:=by rw [<- Array.toList_eq_nil_iff];exact h1
   have e2:caps=#[]:=by rw [<- Array.toList_eq_nil_iff];exact h2
   subst e1 e2;exact .fn f [] [] (.nil _)
  ·exact .any _
 ·exact .v _
theorem zL6 {T:Tm}{a:Act}(h:zFN ι fz w T a) (x:Operand):Rel ι fz w (zAf T x) (a.eval x):=by
 cases x with
 | tmp t=>exact h t
 | const v=>exact zOd v
 | global g=>exact .any _
 | func f=>exact .fn f [] [] (.nil _)
end
def zBk (P:Program) (o:Oper) (a:Act) (w:World) (post:Value->World->Prop):Prop:=
 ∀ (K:Act->World->Prop) (Q:Exit->Act->World->Prop),(∀u w',post u w'->K (a.put o.dst u) w')->o.wp P a w K Q
section
variable {P:Program}{o:Oper}{a:Act}{w:World}{post:Value->World->Prop}
theorem zBk.value {u:Value}{w':World}(h:(execOp a.eval o).run P w=.ok (.value u) w') (hp:post u w'):zBk P o a w post:=fun K Q hK=>by
 unfold Oper.wp;rw [h];exact hK _ _ hp
theorem zBk.skip {w':World}(h:(execOp a.eval o).run P w=.ok .skip w') (hp:post undef w'):zBk P o a w post:=fun K Q hK=>by
 unfold Oper.wp;rw [h];exact hK _ _ hp
theorem zBk.enter {f:FuncId}{args:Array Value}{w1:World}(h:(execOp a.eval o).run P w=.ok (.enter f args) w1)
  (hc:Calls P f args w1 fun | .returned v,w'=>post v w' | _,_=>False):zBk P o a w post:=fun K Q hK=>by
 unfold Oper.wp;rw [h];refine hc.mono fun e w' he=>?_
 cases e with
 | returned v=>exact hK _ _ he
 | panicked c=>exact he.elim
 | outgrown=>exact he.elim
theorem zBk.mono {post':Value->World->Prop}(h:zBk P o a w post) (hp:∀u w',post u w'->post' u w'):zBk P o a w post':=fun K Q hK=>h K Q fun u w' hu=>hK u w' (hp u w' hu)
end
def zBZ:TypeDesc->Bool
 | .struct _=>true
 | .array _ _=>true
 | _=>false
def zGS (P:Program) (d:TypeDesc):TC->Prop
 | .other=>zBZ d=false
 | .bool=>d=.bool
 | .int k=>d=.int k
 | .str=>d=.string
 | .ptr=>∃e,d=.pointer e
 | .fnc=>∃a b c,d=.func a b c
 | .slice e=>d=.slice e
 | .arr n e=>d=.array n e
 | .map k e=>d=.map k e
 | .struct fs=>∃fields:Array Field,d=.struct fields/\fs.length=fields.size/\∀ (j:Nat) (f:Field),fields[j]? = some f->∃i du,P.info? f.type=some i/\P.underlying f.type=some du/\fs[j]? = some (f.offset,i.size,zBZ du)
def zFO (L:TypeId->Nat->Prop):List Field->Nat->Nat->Prop
 | [],o,e=>o=e
 | f::fs,o,e=>f.offset=o/\f.name ≠ "_"/\∃s,L f.type s/\zFO L fs (o+s) e
def zHW (P:Program):Nat->TypeId->Nat->Prop
 | 0,_,_=>False
 | d+1,t,s=>(∃k i,P.underlying t=some (.int k)/\P.info? t=some i/\i.size=1/\s=1)\/
   ∃ (fields:Array Field) (i:TypeInfo),P.underlying t=some (.struct fields)/\P.stoodInHeld t=false/\P.info? t=some i/\i.size=s/\zFO (zHW P d) fields.toList 0 s
structure zMV (P:Program) (t:Nat) (ti:TI):Prop where
 ex:∃i z d,P.info? t=some i/\i.size=ti.size/\i.bytes=ti.bytes/\i.zero=some z/\(∀ι fz w,zA5 ι fz w true ti.zero z.cells.toList)/\ti.zero.length=ti.size/\
  (zBZ d=true->z=.agg z.cells)/\(zBZ d=false->z.cells=#[z])/\P.underlying t=some d/\zGS P d ti.c
 eq:ti.eq=true->P.eqGuardType P.depth t=false/\(∃fields:Array Field,P.underlying t=some (.struct fields))/\zHW P 9 t ti.size
theorem zG0 {P:Program}{d:TypeDesc}{c:TC}(h:zGS P d c):zC6 c=zBZ d:=by
 cases c <;> simp only [zGS] at h
 case other=>rw [h];rfl
 case bool=>subst h;rfl
 case int=>subst h;rfl
 case str=>subst h;rfl
 case ptr=>obtain ⟨e,rfl⟩:=h;rfl
 case fnc=>obtain ⟨_,_,_,rfl⟩:=h;rfl
 case slice=>subst h;rfl
 case arr=>subst h;rfl
 case map=>subst h;rfl
 case struct=>obtain ⟨_,rfl,_⟩:=h;rfl
section
variable {P:Program}
theorem zEE {t:TypeId}{d:TypeDesc}(h:P.underlying t=some d) (w:World):(isAgg t).run P w=.ok (zBZ d) w:=by
 unfold isAgg;rw [Sem.run_bind,run_underlying h];cases d <;> rfl
theorem zDt {t:TypeId}{i:TypeInfo}(h:P.info? t=some i) (w:World):(typeInfo t).run P w=.ok i w:=by
 simp [typeInfo,h]
theorem zAj {t:TypeId}{i:TypeInfo}(h:P.info? t=some i) (w:World):(sizeOf t).run P w=.ok i.size w:=by
 unfold sizeOf;rw [Sem.run_bind,zDt h];rfl
theorem zHE {t:TypeId}{i:TypeInfo}{z:Value}(h:P.info? t=some i) (hz:i.zero=some z) (w:World):(zeroValue t).run P w=.ok z w:=by
 unfold zeroValue;rw [Sem.run_bind,zDt h];simp [hz]
theorem zDu {t:TypeId}{i:TypeInfo}{d:TypeDesc}(hi:P.info? t=some i) (hd:P.underlying t=some d) {w:World}{b o:Nat}{vs:List Value}(hc:zA1 w b o vs) {u:Value}
  (hu:(zBZ d=true/\i.size<=vs.length/\u=.agg (vs.take i.size).toArray)\/(zBZ d=false/\vs[0]? = some u)) :
  (loadVar t ⟨b,o,none⟩).run P w=.ok u w:=by
 unfold loadVar;rw [Sem.run_bind,zEE hd];have hadd:∀j,(⟨b,o,none⟩:Addr).add j=⟨b,o+j,none⟩:=fun j=>add_mk' b o j
 rcases hu with ⟨h1,h2,rfl⟩ | ⟨h1,h2⟩
 ·simp only [Result.andThen_ok,h1,if_true,Sem.run_bind,zAj hi]
  have hl:(vs.take i.size).length=i.size:=by rw [Yr];omega
  have:=run_loadCells_list (P:=P) w ⟨b,o,none⟩ (vs.take i.size) (fun j v hv=>by
   rw [hadd];refine hc j v ?_;by_cases hj:j<i.size
   ·rwa [Xf hj] at hv
   ·rw [List.getElem?_take_eq_none (by omega)] at hv;cases hv)
  rw [hl] at this;rw [this];rfl
 ·simp only [Result.andThen_ok,h1,Bool.false_eq_true,if_false]
  have:=hc 0 u h2;simp only [Nat.add_zero] at this;simp [load,Sem.run,this]
where
 add_mk' (b o j:Nat):(⟨b,o,none⟩:Addr).add j=⟨b,o+j,none⟩:=by
  unfold Addr.add
  split
  ·subst_vars;rfl
  ·rfl
theorem zI1 {t:TypeId}{i:TypeInfo}(hi:P.info? t=some i) {w:World}{b o:Nat}{cur:Array Value}{ty:TypeId}(hg:w.heap[b]? = some (.cells cur ty (0,0))) {v:Value}(hs:v.cells.size=i.size)
  (hl:o+v.cells.size<=cur.size) (h1:∀u∈v.cells.toList,zFv u=true) :
  (storeVar t ⟨b,o,none⟩ v).run P w=.ok () (w.setRow b (cur.toList.take o++v.cells.toList++cur.toList.drop (o+v.cells.size)).toArray):=by
 unfold storeVar;rw [Sem.run_bind,zAj hi];simp only [Result.andThen_ok,hs,ne_eq,not_true_eq_false,if_false,Sem.run_pure];have:=run_storeCells_at (P:=P) b o ty v.cells.toList 0 cur w hg (by simpa using hl) h1
 simpa [hs] using this
end
theorem zB1.new {G:Gl}{ι:Io}{fz:Nat->Prop}{H:Hp}{n:Nat}{w:World}(hI:Inv G ι fz (hget H) w) (hfresh:ι n=none) (hb:HB) (o:Obj) (s:Nat)
  (hk:∀w',w'.heap[w.heap.size]? = some o->(∀b,fz b->w'.heap[b]? = w.heap[b]?)->zJH (fun j=>if j=n then some (w.heap.size,s) else ι j) fz w' w.heap.size s hb) (k:Nat) :
  zB1 G ι fz (hget H) n w (fun j=>if j=n then some (w.heap.size,s) else ι j) fz (hget ((n,hb)::H)) (n+1) { w with heap:=w.heap.push o,drawn:=w.drawn+k }:=by
 have hext:∀i p,ι i=some p->(fun j=>if j=n then some (w.heap.size,s) else ι j) i=some p:=by
  intro i p e;have:i≠n:=fun h=>by subst h;rw [hfresh] at e;cases e
  simpa [this] using e
 have hold:∀b,b<w.heap.size->(w.heap.push o)[b]? = w.heap[b]?:=fun b hb=>by
  rw [Array.getElem?_push]
  split
  ·omega
  ·rfl
 refine ⟨hext,fun i hi=>?_,fun _ h=>h,fun _ h=>.inl h,by simp,fun b hb _=>hold b hb,rfl,rfl,rfl,?_,?_⟩
 ·have:i≠n:=by omega
  simp [this]
 ·rintro b ⟨id,hb',s',e,hi⟩
  rw [zAY] at e;by_cases hid:n=id
  ·subst hid
   simp at hi;exact .inr (by omega)
  ·rw [if_neg hid] at e
   have hid':id≠n:=Ne.symm hid;simp only [hid',if_false] at hi;exact .inl ⟨id,hb',s',e,hi⟩
 ·refine ⟨fun id hb' e=>?_,fun i j hi hj b s1 s2 e1 e2 e3 e4=>?_,fun b hb'=>by have:=hI.fzlt b hb';simp;omega,hI.gb,?_⟩
  ·rw [zAY] at e
   by_cases hid:n=id
   ·subst hid
    simp at e;subst e;exact ⟨w.heap.size,s,by simp,fun h=>by have:=hI.fzlt _ h;omega,hk _ (by simp) (fun b hb'=>hold b (hI.fzlt b hb'))⟩
   ·rw [if_neg hid] at e
    obtain ⟨b,s',h1,h2,h3⟩:=hI.blk id hb' e;exact ⟨b,s',hext _ _ h1,h2,h3.mono hext (fun _ h=>h) (fun b hb'=>hold b (hI.fzlt b hb')) (hold b h3.lt)⟩
  ·rw [zAY] at e1 e2
   by_cases hi':n=i
   ·subst hi'
    by_cases hj':n=j
    ·exact hj'
    ·rw [if_neg hj'] at e2
     have:j≠n:=Ne.symm hj';simp only [this,if_false] at e4;simp at e3;obtain ⟨b',s',h1,h2,h3⟩:=hI.blk j hj e2;rw [e4] at h1;injection h1 with h1
     injection h1 with h1 _
     have:=h3.lt;omega
   ·rw [if_neg hi'] at e1
    have hi2:i≠n:=Ne.symm hi';simp only [hi2,if_false] at e3;by_cases hj':n=j
    ·subst hj'
     simp at e4;obtain ⟨b',s',h1,h2,h3⟩:=hI.blk i hi e1;rw [e3] at h1;injection h1 with h1
     injection h1 with h1 _
     have:=h3.lt;omega
    ·rw [if_neg hj'] at e2
     have:j≠n:=Ne.symm hj';simp only [this,if_false] at e4;exact hI.inj i j hi hj b s1 s2 e1 e2 e3 e4
  ·refine G.keep w _ hI.gp fun b hb'=>hold b (hI.fzlt b (hI.gb b hb'))
theorem zB1.write {G:Gl}{ι:Io}{fz:Nat->Prop}{H:Hp}{n:Nat}{w w':World}(hI:Inv G ι fz (hget H) w) {id b s:Nat}{hb hb':HB}(e:hget H id=some hb) (hi:ι id=some (b,s))
  (hsize:w'.heap.size=w.heap.size) (hother:∀k,k≠b->w'.heap[k]? = w.heap[k]?) (h1:w'.os=w.os) (h2:w'.tape=w.tape) (h3:w'.output=w.output)
  (hk:(∀k,fz k->w'.heap[k]? = w.heap[k]?)->zJH ι fz w' b s hb'):zB1 G ι fz (hget H) n w ι fz (hget (zK1 H id hb')) n w':=by
 obtain ⟨b0,s0,hi0,hn0,hk0⟩:=hI.blk id hb e;rw [hi] at hi0;injection hi0 with hi0
 injection hi0 with hb0 hs0
 subst hb0 hs0;have hfz:∀k,fz k->w'.heap[k]? = w.heap[k]?:=fun k hk=>hother k (fun h=>hn0 (h ▸ hk))
 have hdom:∀j x,hget (zK1 H id hb') j=some x->(j=id/\x=hb')\/(j≠id/\hget H j=some x):=by
  intro j x ej;rw [zLq] at ej
  split at ej
  ·rename_i hj
   rw [e] at ej;simp at ej;exact .inl ⟨hj,ej.symm⟩
  ·rename_i hj
   exact .inr ⟨hj,ej⟩
 have hdom':∀j x,hget (zK1 H id hb') j=some x->∃y,hget H j=some y:=by
  intro j x ej;rcases hdom j x ej with ⟨rfl,_⟩ | ⟨_,h⟩
  ·exact ⟨hb,e⟩
  ·exact ⟨x,h⟩
 refine ⟨fun _ _ h=>h,fun _ _=>rfl,fun _ h=>h,fun _ h=>.inl h,by omega,fun k hk hn=>hother k (fun h=>hn ⟨id,hb,s,e,h ▸ hi⟩),h1,h2,h3,?_,?_⟩
 ·rintro k ⟨j,x,s',ej,hj⟩
  obtain ⟨y,ey⟩:=hdom' j x ej;exact .inl ⟨j,y,s',ey,hj⟩
 ·refine ⟨fun j x ej=>?_,fun i j xi xj k s1 s2 e1 e2 e3 e4=>?_,fun k hk=>by rw [hsize];exact hI.fzlt k hk,hI.gb,G.keep w _ hI.gp fun k hk=>hfz k (hI.gb k hk)⟩
  ·rcases hdom j x ej with ⟨rfl,rfl⟩ | ⟨hj,hx⟩
   ·exact ⟨b,s,hi,hn0,hk hfz⟩
   ·obtain ⟨b',s',h4,h5,h6⟩:=hI.blk j x hx
    refine ⟨b',s',h4,h5,h6.mono (fun _ _ h=>h) (fun _ h=>h) hfz (hother b' (fun h=>?_))⟩;subst h;exact hj (hI.inj j id x hb b' s' s hx e h4 hi)
  ·obtain ⟨y1,ey1⟩:=hdom' i xi e1
   obtain ⟨y2,ey2⟩:=hdom' j xj e2;exact hI.inj i j y1 y2 k s1 s2 ey1 ey2 e3 e4
def zBV (P:Program) (E:Env):Prop:=∀t ti,PT.get none E.ti t=some ti->zMV P t ti
def zAB (P:Program) (G:Gl) (o:Oper) (a:Act) (ι:Io) (fz:Nat->Prop) (H:Hp) (n:Nat) (w:World) (r:RV):Prop:=
 ∀v H' n',r=.ok v H' n'->(∀i,n<=i->i<n'->ι i=none)->
  zBk P o a w fun u w'=>∃ι' fz',zB1 G ι fz (hget H) n w ι' fz' (hget H') n' w'/\Rel ι' fz' w' v u
section
variable {P:Program}{G:Gl}{E:Env}{o:Oper}{a:Act}{ι:Io}{fz:Nat->Prop}{H:Hp}{n:Nat}{w:World}{T:Tm}{call:zAr}
theorem zAB.same (hI:Inv G ι fz (hget H) w) {x:AV}{u:Value}(hrun:(execOp a.eval o).run P w=.ok (.value u) w) (hr:Rel ι fz w x u):zAB P G o a ι fz H n w (.ok x H n):=by
 intro v H' n' e _;injection e with e1 e2 e3
 subst e1 e2 e3;exact zBk.value hrun ⟨ι,fz,zB1.refl hI n,hr⟩
theorem zAB.fail:zAB P G o a ι fz H n w .fail:=fun v H' n' e=>by cases e
theorem zAB.okv (hI:Inv G ι fz (hget H) w) {x:Option AV}(h:∀y,x=some y->∃u,(execOp a.eval o).run P w=.ok (.value u) w/\Rel ι fz w y u):zAB P G o a ι fz H n w (okv x H n):=by
 cases x with
 | none=>exact zAB.fail
 | some y=>
  obtain ⟨u,h1,h2⟩:=h y rfl;exact zAB.same hI h1 h2
theorem zAd {t:Nat}{f:TI->RV}(hE:zBV P E) (h:∀ti,zMV P t ti->zAB P G o a ι fz H n w (f ti)):zAB P G o a ι fz H n w (withT E t f):=by
 unfold withT;cases e:PT.get none E.ti t with
 | none=>exact zAB.fail
 | some ti=>exact h ti (hE t ti e)
theorem zCc {t:Nat}{f:TI->RV}(hE:zBV P E) (h:∀e te,P.underlying t=some (.slice e)->zMV P e te->zAB P G o a ι fz H n w (f te)):zAB P G o a ι fz H n w (elemT E t f):=by
 unfold elemT;refine zAd hE fun ti hti=>?_
 obtain ⟨i,z,d,_,_,_,_,_,_,_,_,hd,hc⟩:=hti.ex
 split
 ·rename_i e hce
  rw [hce] at hc;simp only [zGS] at hc;subst hc;exact zAd hE fun te hte=>h e te hd hte
 ·exact zAB.fail
theorem zAB.new (hI:Inv G ι fz (hget H) w) {cs:List AV}{vs:List Value}{rest:List Value}{ty:TypeId}{k:Nat}{x:AV}{u:Value}
  (hrun:(execOp a.eval o).run P w=.ok (.value u) { w with heap:=w.heap.push (.cells (vs++rest).toArray ty (0,0)),drawn:=w.drawn+k })
  (hr:zA5 ι fz w true cs vs) (hu:∀ι' w',(∀i p,ι i=some p->ι' i=some p)->ι' n=some (w.heap.size,(vs++rest).length)->(∀b,fz b->w'.heap[b]? = w.heap[b]?)->Rel ι' fz w' x u) :
  zAB P G o a ι fz H n w (.ok x ((n,.cells cs)::H) (n+1)):=by
 intro v H' n' e hf;injection e with e1 e2 e3
 subst e1 e2 e3;have hext:∀i p,ι i=some p->(fun j=>if j=n then some (w.heap.size,(vs++rest).length) else ι j) i=some p:=by
  intro i p e;have:i≠n:=fun h=>by subst h;rw [hf i (Ya _) (Nat.lt_succ_self _)] at e;cases e
  simpa [this] using e
 refine zBk.value hrun ⟨_,fz,zB1.new hI (hf n (Ya _) (Nat.lt_succ_self _)) (.cells cs) _ (vs++rest).length (fun w' h1 h2=>?_) k,hu _ _ hext (by simp) (fun b hb=>?_)⟩
 ·exact ⟨vs,rest,ty,h1,hr.mono hext (fun _ h=>h) h2,rfl⟩
 ·have:=hI.fzlt b hb
  rw [Array.getElem?_push]
  split
  ·omega
  ·rfl
theorem zRj {x:Operand}(ho:o.op=.move x\/o.op=.assign x) (hI:Inv G ι fz (hget H) w) (hx:Rel ι fz w (zAf T x) (a.eval x)):zAB P G o a ι fz H n w (zTc x E call T H n):=by
 refine zAB.same hI ?_ hx;rcases ho with ho | ho <;> simp only [execOp,ho,Sem.run_pure]
theorem zVd {c x y:Operand}(ho:o.op=.pick c x y) (hI:Inv G ι fz (hget H) w) (hc:Rel ι fz w (zAf T c) (a.eval c)) (hx:Rel ι fz w (zAf T x) (a.eval x)) (hy:Rel ι fz w (zAf T y) (a.eval y)) :
  zAB P G o a ι fz H n w (zKb c x y E call T H n):=by
 unfold zKb
 split
 ·rename_i t e
  rw [e] at hc;cases hc':a.eval c <;> rw [hc'] at hc <;> cases hc
  refine zAB.same hI (u:=if t then a.eval x else a.eval y) ?_ ?_
  ·simp only [execOp,ho,hc',asBool,Sem.run_bind,Sem.run_pure,Result.andThen_ok]
  ·cases t
   ·exact hy
   ·exact hx
 ·exact zAB.fail
theorem zTG {t:Nat}(hE:zBV P E) (ho:o.op=.alloc t) (hI:Inv G ι fz (hget H) w):zAB P G o a ι fz H n w (zHN t E call T H n):=by
 refine zAd hE fun ti hti=>?_
 obtain ⟨i,z,d,hi,hs,hb,hz,hzr,hzl,_,_,hd,hc⟩:=hti.ex;refine zAB.new hI (k:=0) (vs:=z.cells.toList) (rest:=[]) (ty:=t) (u:=.pointer (some ⟨w.heap.size,0,none⟩)) ?_ (hzr ι fz w) (fun ι' w' _ h _=>.ptr _ _ _ _ h);simp only [execOp,ho,Instr.alloc,Sem.run_bind,zHE hi hz,Result.andThen_ok,newVar,newRow,newObj,Sem.run_pure,List.append_nil,Array.toArray_toList,Nat.add_zero];rfl
theorem cells?_v (u:Value):cells? (.v u)=(match u with | .agg _=>none | .tuple _=>none | x=>some [AV.v x]):=rfl
theorem zGb {x:AV}{u:Value}{cs:List AV}(h:cells? x=some cs) (hr:Rel ι fz w x u):zA5 ι fz w true cs u.cells.toList:=by
 have one:∀ (y:AV) (u:Value),Rel ι fz w y u->zFv u=true->zA5 ι fz w true [y] u.cells.toList:=by
  intro y u hy hu;have:u.cells.toList=[u]:=by cases u <;> first | rfl | cases hu
  rw [this];exact .single hy fun _=>hu
 cases hr with
 | i k n=>cases h;exact one _ _ (.i k n) rfl
 | b t=>cases h;exact one _ _ (.b t) rfl
 | v x=>
  rw [cells?_v] at h
  split at h
  ·cases h
  ·cases h
  ·rename_i h1 h2
   cases h;refine one _ _ (.v u) ?_;cases u <;> first | rfl | exact absurd rfl (h1 _) | exact absurd rfl (h2 _)
 | any=>cases h
 | lim n A len c h' hf=>cases h;exact one _ _ (.lim n A len c h' hf) rfl
 | fsl cs' vs len b o' c hf hc hl h'=>cases h;exact one _ _ (.fsl cs' vs len b o' c hf hc hl h') rfl
 | fpt cs' vs b o' hf hc h'=>cases h;exact one _ _ (.fpt cs' vs b o' hf hc h') rfl
 | sl id off len k cap b s c hi hs hl hc=>cases h;exact one _ _ (.sl id off len k cap b s c hi hs hl hc) rfl
 | ptr id off b s hi=>cases h;exact one _ _ (.ptr id off b s hi) rfl
 | map id b s hi=>cases h;exact one _ _ (.map id b s hi) rfl
 | agg cs' vs h'=>cases h;simpa [Value.cells] using h'
 | tup=>cases h
 | fn f cs' vs h'=>cases h;exact one _ _ (.fn f cs' vs h') rfl
theorem zeP {t:Nat}{x:Operand}(ho:o.op=.box t x) (hI:Inv G ι fz (hget H) w) (hx:Rel ι fz w (zAf T x) (a.eval x)):zAB P G o a ι fz H n w (zRt t x E call T H n):=by
 unfold zRt;cases e:cells? (zAf T x) with
 | none=>exact zAB.fail
 | some cs=>
  have hr:=zGb e hx;refine zAB.new hI (k:=0) (rest:=[]) (ty:=t) (u:=.pointer (some ⟨w.heap.size,0,none⟩)) ?_ hr (fun ι' w' _ h _=>.ptr _ _ _ _ h);simp only [execOp,ho,Instr.box,Sem.run_bind,Result.andThen_ok,newVar,newRow,newObj,Sem.run_pure,List.append_nil,Array.toArray_toList,Nat.add_zero];rfl
theorem zHJ {ti:TI}{t:Nat}{cs:List AV}{vs:List Value}{y:AV}(hti:zMV P t ti) (hr:zA5 ι fz w true cs vs) (h:zDP (zC6 ti.c) ti.size cs=some y) :
  ∃i d u,P.info? t=some i/\P.underlying t=some d/\Rel ι fz w y u/\i.size=ti.size/\((zBZ d=true/\i.size<=vs.length/\u=.agg (vs.take i.size).toArray)\/(zBZ d=false/\vs[0]? = some u/\zFv u=true)):=by
 obtain ⟨i,z,d,hi,hs,hb,hz,hzr,hzl,_,_,hd,hc⟩:=hti.ex;rw [zG0 hc] at h;unfold zDP at h;cases hag:zBZ d
 ·rw [hag] at h
  change zK0 cs=some y at h
  rw [zGG,List.head?_eq_getElem?] at h;obtain ⟨u,h1,h2,h3⟩:=hr.get h;exact ⟨i,d,u,hi,hd,h2,hs,.inr ⟨hag,h1,h3 rfl⟩⟩
 ·rw [hag] at h
  change (Bool.rec none (some (AV.agg (zI9 cs ti.size))) (Nat.beq (zJK (zI9 cs ti.size)) ti.size):Option AV)=some y at h
  rw [zGN,zCx] at h;cases hl:Nat.beq (cs.take ti.size).length ti.size
  ·rw [hl] at h;cases h
  ·rw [hl] at h
   injection h with h
   subst h;have hl':=Yg hl;rw [Yr] at hl';have:=hr.len;refine ⟨i,d,.agg (vs.take ti.size).toArray,hi,hd,.agg _ _ (hr.take _),hs,.inl ⟨hag,by omega,by rw [hs]⟩⟩
theorem zJ7 (hI:Inv G ι fz (hget H) w) {id off:Nat}{u:Value}{cs:List AV}(hr:Rel ι fz w (.ptr id off) u) (e:hget H id=some (.cells cs)) :
  ∃b s vs rest ty,u=.pointer (some ⟨b,off,none⟩)/\ι id=some (b,s)/\w.heap[b]? = some (.cells (vs++rest).toArray ty (0,0))/\zA5 ι fz w true cs vs/\(vs++rest).length=s:=by
 cases hr with
 | ptr _ _ b s hi=>
  obtain ⟨b',s',hi',hn,vs,rest,ty,h1,h2,h3⟩:=hI.blk id _ e;rw [hi] at hi';injection hi' with hi'
  injection hi' with e1 e2
  subst e1 e2;exact ⟨b,s,vs,rest,ty,rfl,hi,h1,h2,h3⟩
theorem zEZ {b:Nat}{vs rest:List Value}{ty:TypeId}{f:Nat×Nat}(h:w.heap[b]? = some (.cells (vs++rest).toArray ty f)):zA1 w b 0 vs:=by
 intro j v hv;simp only [World.cell?,h,Nat.zero_add,Option.isSome_none,Bool.false_eq_true,if_false,List.getElem?_toArray];have hj:j<vs.length:=(Yb.1 hv).1;rw [Yw hj];exact hv
theorem zLx (hI:Inv G ι fz (hget H) w) {t:Nat}{ti:TI}{p:AV}{u:Value}{y:AV}(hti:zMV P t ti) (hr:Rel ι fz w p u) (h:loadAt H p (zC6 ti.c) ti.size=some y) :
  ∃ad x,u=.pointer (some ad)/\(loadVar t ad).run P w=.ok x w/\Rel ι fz w y x:=by
 unfold loadAt at h
 split at h
 ·rename_i id off
  split at h
  ·rename_i cs e
   obtain ⟨b,s,vs,rest,ty,rfl,hi,h1,h2,h3⟩:=zJ7 hI hr e;rw [zBr] at h;obtain ⟨i,d,x,hii,hd,hx,hsz,hor⟩:=zHJ hti (h2.drop off) h;have hc:=zBY (zEZ h1) off;rw [Nat.zero_add] at hc;refine ⟨_,x,rfl,zDu hii hd hc ?_,hx⟩;rcases hor with hor | ⟨h4,h5,_⟩
   ·exact .inl hor
   ·exact .inr ⟨h4,h5⟩
  ·cases h
 ·rename_i cs
  cases hr with
  | fpt _ vs b o' hf hc hrel=>
   obtain ⟨i,d,x,hii,hd,hx,hsz,hor⟩:=zHJ hti hrel h;refine ⟨_,x,rfl,zDu hii hd hc ?_,hx⟩;rcases hor with hor | ⟨h4,h5,_⟩
   ·exact .inl hor
   ·exact .inr ⟨h4,h5⟩
 ·cases h
theorem zVa {t:Nat}{x:Operand}(hE:zBV P E) (ho:o.op=.load t x) (hI:Inv G ι fz (hget H) w) (hx:Rel ι fz w (zAf T x) (a.eval x)):zAB P G o a ι fz H n w (zHe t x E call T H n):=by
 refine zAd hE fun ti hti=>zAB.okv hI fun y hy=>?_
 obtain ⟨ad,u,e,h1,h2⟩:=zLx hI hti hx hy;refine ⟨u,?_,h2⟩;simp only [execOp,ho,e,Instr.loadAt,Instr.sureAddr,Sem.run_bind,Sem.run_pure,Result.andThen_ok,h1]
theorem zTM {t:Nat}{x y:Operand}(hE:zBV P E) (ho:o.op=.store t x y) (hI:Inv G ι fz (hget H) w) (hx:Rel ι fz w (zAf T x) (a.eval x)) (hy:Rel ι fz w (zAf T y) (a.eval y)) :
  zAB P G o a ι fz H n w (zMS t x y E call T H n):=by
 refine zAd hE fun ti hti=>?_
 cases ec:cells? (zAf T y) with
 | none=>exact zAB.fail
 | some vs=>
  have hv:=zGb ec hy
  change zAB P G o a ι fz H n w (zI6 ti.size (zAf T x) vs H n)
  unfold zI6
  split
  ·rename_i id off ep
   rw [ep] at hx
   split
   ·rename_i cs e
    obtain ⟨b,s,us,rest,ty,hu,hi,h1,h2,h3⟩:=zJ7 hI hx e;rw [zCx];cases hl:Nat.beq vs.length ti.size
    ·exact zAB.fail
    ·have hl':=Yg hl
     cases est:zDY off cs vs with
     | none=>exact zAB.fail
     | some cs'=>
      obtain ⟨h4,rfl⟩:=zB6 est;intro v H' n' er hf;injection er with e1 e2 e3
      subst e1 e2 e3;obtain ⟨i,z,d,hii,hs,hb,hz,hzr,hzl,_,_,hd,hc⟩:=hti.ex;have hlen:=hv.len;have hlen2:=h2.len;have hsz:(a.eval y).cells.size=i.size:=by rw [<- Array.length_toList,<- hlen,hs];exact hl'
      have hst:=zI1 (P:=P) hii h1 (v:=a.eval y) (o:=off) hsz (by rw [hsz];simp;omega) (hv.cells rfl);refine zBk.skip (w':=w.setRow b ((us++rest).toArray.toList.take off++(a.eval y).cells.toList++(us++rest).toArray.toList.drop (off+(a.eval y).cells.size)).toArray) ?_ ?_
      ·simp only [execOp,ho,hu,Instr.storeAt,Instr.sureAddr,Sem.run_bind,Sem.run_pure,Result.andThen_ok,hst]
      ·refine ⟨ι,fz,zB1.write hI e hi (by simp) (fun k hk=>setRow_other _ _ _ _ hk) rfl rfl rfl (fun hfz=>?_),.v _⟩
       have hvl:(a.eval y).cells.toList.length=vs.length:=hlen.symm;refine ⟨us.take off++(a.eval y).cells.toList++us.drop (off+vs.length),rest,ty,?_,?_,?_⟩
       ·rw [setRow_heap _ _ _ _ _ _ h1]
        congr 2
        have e1:(a.eval y).cells.size=vs.length:=by rw [<- hvl];simp
        rw [e1];simp only [List.take_append_of_le_length (show off<=us.length by omega),List.append_assoc,List.append_cancel_left_eq];rw [List.drop_append_of_le_length (by omega)]
       ·exact ((((h2.take off).append hv).append (h2.drop _)).mono (fun _ _ h=>h) (fun _ h=>h) hfz)
       ·rw [<- h3]
        simp only [Yu,Yr,List.length_drop,hvl];omega
   ·exact zAB.fail
  ·exact zAB.fail
end
end Go.Proofs.YtchkfjgcbbbffaaGreatDoor
end
