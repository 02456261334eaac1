/- Bundle 37: what the law's walk stands on: N8, Y15, K42. -/
import Derived.Test.YtngjhigieajkmaaGreatDoorH8
import Derived.Test.YtngjhigieajkmaaGreatDoorH15
import Derived.Test.YtngjhigieajkmaaGreatDoorH16
import Derived.Test.YtngjhigieajkmaaGreatDoorH17
import Derived.Test.YtngjhigieajkmaaGreatDoorH36
set_option maxRecDepth 100000
set_option maxHeartbeats 20000000
set_option linter.all false
noncomputable section
namespace Go.Proofs.YtngjhigieajkmaaGreatDoor
open Go.RowKit Pl Go.Shelf
theorem zEW (w:World) (h1:glo.p w) (h2:∀b,glo.B b->b<w.heap.size):Calls Tryz.prog 4 #[] w fun e w'=>e=.returned (.bool true)/\Below w.heap.size w w':=by
 have hI:Inv glo (fun _=>none) glo.B (hget []) w:=⟨fun _ _ e=>(by cases e),fun _ _ _ _ _ _ _ e=>(by cases e),h2,fun _ h=>h,h1⟩;rcases zxk.2 (fun _=>none) glo.B w [] (.nil _) hI trivial (fun _ _ _=>rfl) with ⟨u,w',h,_⟩ | ⟨_,h⟩
 ·rw [zDJ Tryz.func4 (by kernel_rfl) rfl] at h
  cases h
 ·refine h.mono ?_
  intro e w' hq;cases e with
  | returned u=>
   obtain ⟨ι',fz',hp,hr'⟩:=hq;cases hr';exact ⟨rfl,hp.os,hp.tape,hp.output,hp.size,fun k hk=>hp.keep k hk (fun ⟨id,hb,s,e,_⟩=>by cases e)⟩
  | panicked c=>exact hq.elim
  | outgrown=>exact hq.elim
abbrev cfc (me od pr tl mo:Int) (ds:List Value):List Value:=([.int .i64 me,.int .i64 od,.int .i64 pr]:List Value)++ds++([.int .i64 tl,.int .i64 mo]:List Value)
theorem zub (F:Nat->Prop) (d:Nat) (us:List Value) (p:Pb) (me od pr tl mo:Int) (ds:List Value) (x:Dy) (w:World) (h:RPb F d w us p) (hx:pbP p=true) (hF:∀b,F b->b<w.heap.size) (hc:RD w ds x) (hd:Bd x) (hno:¬ (zq1 p/\CvP me od pr tl mo x)) :
  Calls Tryz.prog 8 #[.agg us.toArray,.agg (cfc me od pr tl mo ds).toArray] w fun e w'=>e=.returned (.tuple #[.slice none 0 0,.int .i64 1])/\Below w.heap.size w w':=by
 have HV:=Zh (fun W (hb:Below w.heap.size w W)=>ztA F d us p W (zqf F d _ _ _ _ h hb) hx (fun b hb'=>Yh (hF b hb') hb.size));have HC:=Zh (fun W (hb:Below w.heap.size w W)=>zrR me od pr tl mo ds x W (zAQ w W _ _ hc hb) hd);obtain ⟨A,n,c,B,m,q,C,i,k,rfl,-,-,-,-⟩:=h;obtain ⟨A2,n2,c2,rfl,-⟩:=hc;obtain ⟨W0,e0,hb0,k0,k1⟩:=al2 w #[.slice A n c,.slice B m q,.slice C i k,.int .i64 p.n,.int .i64 p.d] 27 #[.int .i64 me,.int .i64 od,.int .i64 pr,.bool x.neg,.slice A2 n2 c2,.int .i64 x.e,.int .i64 tl,.int .i64 mo] 32;obtain ⟨q0,q1,q2,q3,q4⟩:=zq2 k0;have K1:=Zh k1;have HB0:=Zh hb0;have HN:=Zh hno;clear k0 k1 hb0 hno hF hx;go_enter Tryz.func8,Tryz.ntmps8
 go_wp2_with fail
 clear e0 q0 q1 q2 q3 q4;refine (HV.out _ HB0.out).mono ?_;rintro e w1 ⟨t,rfl,ht,hb1⟩
 have HT:=Zh ht;have HB1:=Zh (zAA HB0.out hb1);obtain ⟨q0,q1,q2,q3,q4,q5,q6,q7⟩:=(K1.out.below hb1 K1.out.lt).cells8;clear hb1 ht HV;cases t
 ·go_wp2_with fail
  go_ret2
  exact ⟨rfl,HB1.out⟩
 ·go_wp2_with fail
  clear q0 q1 q2 q3 q4 q5 q6 q7;refine (HC.out _ HB1.out).mono ?_;rintro e w2 ⟨t,rfl,ht,hb2⟩
  have HB2:=Zh (zAA HB1.out hb2);cases t
  ·clear hb2 ht HC
   go_wp2_with fail
   go_ret2
   exact ⟨rfl,HB2.out⟩
  ·exact absurd ⟨HT.out (by first | rfl | trivial),ht.1 (by first | rfl | trivial)⟩ HN.out
theorem zr8 (d:Nat) (us:List Value) (p:Pb) (me od pr tl mo:Int) (ds:List Value) (x:Dy) (w:World) (h:RPb (fun b=>b<w.heap.size) d w us p) (hz:SzP p) (hc:RD w ds x) (hg:glo.p w) (hgb:∀b,glo.B b->b<w.heap.size) :
  Calls Tryz.prog 3 #[.agg us.toArray,.agg (cfc me od pr tl mo ds).toArray] w (zBW true w):=by
 have HAw:=Zh (fun W (hb:Below w.heap.size w W)=>zEW W (glo.keep w W hg fun b hB=>hb.block b (hgb b hB)) (fun b hB=>Yh (hgb b hB) hb.size));have HP:=Zh (fun W (hb:Below w.heap.size w W)=>zrK _ d us p W (zqf _ d _ _ _ _ h hb) hz);have HR:=Zh (fun (hx:pbP p=true) W (hb:Below w.heap.size w W)=>zsc _ d us p W (zqf _ d _ _ _ _ h hb) hz hx (fun b hb'=>Yh hb' hb.size));have HC:=Zh (fun (hd:Bd x) W (hb:Below w.heap.size w W)=>zrR me od pr tl mo ds x W (zAQ w W _ _ hc hb) hd);have HRun:=Zh (fun (hx:pbP p=true) (hd:Bd x) (hno:¬ (zq1 p/\CvP me od pr tl mo x)) W (hb:Below w.heap.size w W)=>zub _ d us p me od pr tl mo ds x W (zqf _ d _ _ _ _ h hb) hx (fun b hb'=>Yh hb' hb.size) (zAQ w W _ _ hc hb) hd hno);obtain ⟨A,n,c,B,m,q,C,i,k,rfl,-,-,-,-⟩:=h;have hlen:∀A n c,SL w A n c x.l->x.l.length=n:=fun A n c hs=>hs.len
 obtain ⟨A2,n2,c2,rfl,hs⟩:=hc;have hl2:=hs.len;have hcap:=hs.cap;have hmax:=hs.max;obtain ⟨W0,e0,hb0,k0,k1⟩:=al2 w #[.slice A n c,.slice B m q,.slice C i k,.int .i64 p.n,.int .i64 p.d] 27 #[.int .i64 me,.int .i64 od,.int .i64 pr,.bool x.neg,.slice A2 n2 c2,.int .i64 x.e,.int .i64 tl,.int .i64 mo] 32;have K0:=Zh k0;have K1:=Zh k1;have HB:=Zh hb0;clear k0 k1 hb0 hlen hs;go_enter Tryz.func3,Tryz.ntmps3
 go_wp2_with fail
 clear e0;refine (HAw.out _ HB.out).mono ?_;rintro e w1 ⟨rfl,hb1⟩
 replace K0:=Zh (K0.out.below hb1 K0.out.lt);replace K1:=Zh (K1.out.below hb1 K1.out.lt);replace HB:=Zh (zAA HB.out hb1);clear hb1;obtain ⟨q0,q1,q2,q3,q4,q5,q6,q7⟩:=K1.out.cells8;obtain ⟨p0,p1,p2,p3,p4⟩:=zq2 K0.out;by_cases hn:n2<=300
 rotate_left
 ·go_wp2_with fail
  refine (HAw.out _ HB.out).mono ?_;rintro e w2 ⟨rfl,hb2⟩
  have HB2:=Zh (zAA HB.out hb2);clear hb2;go_wp2_with fail
  go_ret;exact ⟨rfl,HB2.out⟩
 have hd:Bd x:=by unfold Bd;omega
 go_wp2_with fail
 clear q0 q1 q2 q3 q4 q5 q6 q7 p0 p1 p2 p3 p4;refine (HP.out _ HB.out).mono ?_;rintro e w2 ⟨rfl,hb2⟩
 replace K0:=Zh (K0.out.below hb2 K0.out.lt);replace K1:=Zh (K1.out.below hb2 K1.out.lt);replace HB:=Zh (zAA HB.out hb2);clear hb2 HP;obtain ⟨p0,p1,p2,p3,p4⟩:=zq2 K0.out;cases hx:pbP p
 ·clear hx
  go_wp2_with fail
  clear p0 p1 p2 p3 p4;refine (HAw.out _ HB.out).mono ?_;rintro e w3 ⟨rfl,hb3⟩
  have HB3:=Zh (zAA HB.out hb3);clear hb3;go_wp2_with fail
  go_ret;exact ⟨rfl,HB3.out⟩
 replace HR:=Zh (HR.out hx);replace HC:=Zh (HC.out hd);replace HRun:=Zh (HRun.out hx hd);clear hx;go_wp2_with fail
 clear p0 p1 p2 p3 p4;refine (HR.out _ HB.out).mono ?_;rintro e w3 ⟨t,rfl,ht,hb3⟩
 have HT:=Zh ht;replace K0:=Zh (K0.out.below hb3 K0.out.lt);replace K1:=Zh (K1.out.below hb3 K1.out.lt);replace HB:=Zh (zAA HB.out hb3);clear hb3 ht HR;obtain ⟨q0,q1,q2,q3,q4,q5,q6,q7⟩:=K1.out.cells8;obtain ⟨p0,p1,p2,p3,p4⟩:=zq2 K0.out;cases t
 ·replace HRun:=Zh (HRun.out (fun h=>by have:=HT.out.2 h.1;cases this))
  clear HC HT;go_wp2_with fail
  clear q0 q1 q2 q3 q4 q5 q6 q7 p0 p1 p2 p3 p4;refine (HRun.out _ HB.out).mono ?_;rintro e w4 ⟨rfl,hb4⟩
  have HB4:=Zh (zAA HB.out hb4);clear hb4;go_wp2_with fail
  go_ret;exact ⟨rfl,HB4.out⟩
 ·go_wp2_with fail
  clear q0 q1 q2 q3 q4 q5 q6 q7 p0 p1 p2 p3 p4;refine (HC.out _ HB.out).mono ?_;rintro e w4 ⟨t,rfl,ht,hb4⟩
  have HT4:=Zh ht;replace K0:=Zh (K0.out.below hb4 K0.out.lt);replace K1:=Zh (K1.out.below hb4 K1.out.lt);replace HB:=Zh (zAA HB.out hb4);clear hb4 ht HC;obtain ⟨q0,q1,q2,q3,q4,q5,q6,q7⟩:=K1.out.cells8;obtain ⟨p0,p1,p2,p3,p4⟩:=zq2 K0.out;cases t
  ·replace HRun:=Zh (HRun.out (fun h=>by have:=HT4.out.2 h.2;cases this))
   clear HT HT4;go_wp2_with fail
   clear q0 q1 q2 q3 q4 q5 q6 q7 p0 p1 p2 p3 p4;refine (HRun.out _ HB.out).mono ?_;rintro e w5 ⟨rfl,hb5⟩
   have HB5:=Zh (zAA HB.out hb5);clear hb5;go_wp2_with fail
   go_ret;exact ⟨rfl,HB5.out⟩
  ·go_wp2_with fail
   clear q0 q1 q2 q3 q4 q5 q6 q7 p0 p1 p2 p3 p4;refine (HAw.out _ HB.out).mono ?_;rintro e w5 ⟨rfl,hb5⟩
   have HB5:=Zh (zAA HB.out hb5);clear hb5;go_wp2_with fail
   go_ret;exact ⟨rfl,HB5.out⟩
open Go.ChangeShapes Go.WideShapes Go.ChangeAt
theorem Sl.imp {α:Type}{k:Nat}{R R':World->List Value->α->Prop}{W:World}{A:Option Addr}{n c:Nat}{xs:List α}(h:Sl k R W A n c xs) (hR:∀vs x,R W vs x->R' W vs x):Sl k R' W A n c xs:=
 ⟨h.len,h.cap,h.max,fun hn=>by
  obtain ⟨b,off,e,hb,hc⟩:=h.at_ hn;exact ⟨b,off,e,hb,fun j x hx=>(hc j x hx).imp fun vs h=>⟨h.1,hR _ _ h.2.1,h.2.2⟩⟩⟩
theorem Sl.all {α:Type}{k:Nat}{R:World->List Value->α->Prop}{S:α->Prop}{W:World}{A:Option Addr}{n c:Nat}{xs:List α}(h:Sl k (fun W vs x=>R W vs x/\S x) W A n c xs):Sl k R W A n c xs/\∀x∈xs,S x:=
 ⟨h.imp fun _ _ h=>h.1,fun x hx=>by
  obtain ⟨j,hj⟩:=List.mem_iff_getElem?.1 hx;have hl:=(Yb.1 hj).1;obtain ⟨b,off,e,hb,hc⟩:=h.at_ (by have:=h.len;omega);obtain ⟨vs,_,h2,_⟩:=hc j x hj;exact h2.2⟩
section
variable {H:Type}{enc:TypeId×Value->H}{W:World}
abbrev TrK (enc:TypeId×Value->H) (W:World) (n:Nat) (t:TypeId) (cs:List Value):Prop:=∃x,DataW.trod enc Tryz.prog W 0 (fun _=>true) true n t cs=some x
theorem zqg {t:TypeId}{fs:Array Field}(ht:Tryz.prog.underlying t=some (.struct fs)) {fuel:Nat}{cs:List Value}(h:TrK enc W fuel t cs) :
  ∃n,fuel=n+1/\cs.length=Tryz.prog.cellsOf t/\∀ (i:Nat) (f:Field),fs[i]? = some f->TrK enc W n f.type ((cs.drop f.offset).take (Tryz.prog.cellsOf f.type)):=by
 obtain ⟨x,h⟩:=h;obtain ⟨xs,n,h1,_,hl,hlen,hf⟩:=DataW.trod_struct ht h;refine ⟨n,h1,hl,fun i f hi=>?_⟩;have hil:i<xs.length:=by rw [hlen];exact (Yv.1 hi).1
 exact ⟨xs[i],by rw [hf i f hi,Yo hil]⟩
theorem zrI {fs:Array Field}{n:Nat}{cs:List Value}(hf:∀ (i:Nat) (f:Field),fs[i]? = some f->TrK enc W n f.type ((cs.drop f.offset).take (Tryz.prog.cellsOf f.type))) (i:Nat) (f:Field) (hi:fs[i]? = some f) {t:TypeId}{o k:Nat}(ht:f.type=t) (ho:f.offset=o) (hk:Tryz.prog.cellsOf t=k):TrK enc W n t ((cs.drop o).take k):=by
 have:=hf i f hi
 rwa [ht,ho,hk] at this
theorem zrC {t:TypeId}(ht:Tryz.prog.underlying t=some (.int .i64)) {n:Nat}{cs:List Value}(h:TrK enc W n t cs):∃k:Int,cs=[.int .i64 k]:=by
 obtain ⟨x,h⟩:=h;obtain ⟨k,e,_⟩:=DataW.trod_int ht h;exact ⟨k,e⟩
theorem zsJ {n:Nat}{cs:List Value}(h:TrK enc W n 9 cs):∃s:ByteArray,cs=[.string s]/\SzS s:=by
 obtain ⟨x,h⟩:=h;obtain ⟨s,e,_,hs⟩:=DataW.trod_string Tryz.underlying9 h;exact ⟨s,e,by unfold SzS;simpa [maxLen] using hs⟩
theorem zqz {α:Type}{k:Nat}{R:World->List Value->α->Prop}{t e:TypeId}(ht:Tryz.prog.underlying t=some (.slice e)) (hk:Tryz.prog.cellsOf e=k) (hk0:0<k) {fuel:Nat}
  (hR:∀ (n:Nat) (cs:List Value),n<fuel->TrK enc W n e cs->∃d,R W cs d) {cs:List Value}(h:TrK enc W fuel t cs):∃A n c xs,cs=[.slice A n c]/\Sl k R W A n c xs/\(A=none->c=0):=by
 obtain ⟨x,h⟩:=h;rcases DataW.trod_slice ht h with ⟨rfl,_⟩ | ⟨a,len,cap,elems,rest,n,hfu,rfl,_,_,hl,hm,hlen,hel,_,_⟩
 ·exact ⟨_,_,_,[],rfl,Sl.nil W,fun _=>rfl⟩
 ·rw [hk] at hel
  have hx:∀i,i<len->∃cs',W.cells? 0 (a.add (i*k)) k=some cs'/\TrK enc W n e cs':=fun i hi=>by
   have h1:=hel i hi;rw [Yo (by omega)] at h1;obtain ⟨cs',h2,h3⟩:=Option.bind_eq_some_iff.1 h1;exact ⟨cs',h2,_,h3⟩
  obtain ⟨xs,h1,h2⟩:=zLA (α:=α) (p:=fun i d=>∃cs',W.cells? 0 (a.add (i*k)) k=some cs'/\R W cs' d) len (fun i hi=>by
   obtain ⟨cs',h1,h2⟩:=hx i (by omega);obtain ⟨d,hd⟩:=hR n _ (by omega) h2;exact ⟨d,cs',h1,hd⟩)
  refine ⟨some a,len,cap,xs,rfl,⟨h1,hl,by simpa [maxLen] using hm,fun hn=>?_⟩,fun h=>by cases h⟩;obtain ⟨cs0,g1,_⟩:=hx 0 (by omega);have hblk:=World.cells?_block g1 hk0;obtain ⟨_,gl,gc⟩:=World.cells?_some g1;obtain ⟨b,off,spot⟩:=a;have hspot:spot=none:=by
   have h0:=gc 0 hk0;rw [Yo (by omega)] at h0
   simpa [Addr.add] using World.cell?_spot h0
  subst hspot;refine ⟨b,off,rfl,by simpa [Addr.add] using hblk,fun j d hj=>?_⟩;obtain ⟨cs',e1,e2⟩:=h2 j d hj;obtain ⟨_,el,ec⟩:=World.cells?_some e1;refine ⟨cs',el,e2,fun i v hi=>?_⟩;have hik:i<k:=by have:=(Yb.1 hi).1;omega
  have:=ec i hik;rw [hi,zMY,Go.WideShapes.add_plain,<- Nat.add_assoc] at this;exact this
theorem zvt:Tryz.prog.cellsOf 9=1:=by kernel_rfl
theorem zvs:Tryz.prog.cellsOf 25=2:=by kernel_rfl
theorem zy6:Tryz.prog.cellsOf 91=4:=by kernel_rfl
theorem zw1:Tryz.prog.cellsOf 94=5:=by kernel_rfl
theorem zwU:Tryz.prog.cellsOf 82=6:=by kernel_rfl
theorem zy3:Tryz.prog.cellsOf 80=1:=by kernel_rfl
theorem zyw:Tryz.prog.cellsOf 86=7:=by kernel_rfl
theorem zyu:Tryz.prog.cellsOf 95=7:=by kernel_rfl
theorem zy7:Tryz.prog.cellsOf 87=1:=by kernel_rfl
theorem zy2:Tryz.prog.cellsOf 57=1:=by kernel_rfl
theorem zyt:Tryz.prog.cellsOf 89=9:=by kernel_rfl
theorem zy1:Tryz.prog.cellsOf 58=1:=by kernel_rfl
theorem zyv:Tryz.prog.cellsOf 60=3:=by kernel_rfl
theorem zy4:Tryz.prog.cellsOf 23=1:=by kernel_rfl
theorem zys:Tryz.prog.cellsOf 22=1:=by kernel_rfl
theorem zy5:Tryz.prog.cellsOf 27=5:=by kernel_rfl
theorem zyx {α:Type}{cs:List α}(h:cs.length=5):∃c0 c1 c2 c3 c4,cs=[c0,c1,c2,c3,c4]:=by
 match cs,h with
 | [c0,c1,c2,c3,c4],_=>exact ⟨c0,c1,c2,c3,c4,rfl⟩
theorem zy9 {α:Type}{cs:List α}(h:cs.length=9):∃c0 c1 c2 c3 c4 c5 c6 c7 c8,cs=[c0,c1,c2,c3,c4,c5,c6,c7,c8]:=by
 match cs,h with
 | [c0,c1,c2,c3,c4,c5,c6,c7,c8],_=>exact ⟨c0,c1,c2,c3,c4,c5,c6,c7,c8,rfl⟩
theorem zy8 {α:Type}{cs:List α}(h:cs.length=2):∃c0 c1,cs=[c0,c1]:=by
 match cs,h with
 | [c0,c1],_=>exact ⟨c0,c1,rfl⟩
theorem zss {n:Nat}{cs:List Value}(h:TrK enc W n 25 cs):∃a b:Int,cs=[.int .i64 a,.int .i64 b]:=by
 obtain ⟨n,rfl,hl,hf⟩:=zqg Tryz.underlying25 h;rw [zvs] at hl;obtain ⟨c0,c1,rfl⟩:=zy8 hl;have h0:=zrI (t:=3) (o:=0) hf 0 _ rfl rfl rfl zf1;have h1:=zrI (t:=3) (o:=1) hf 1 _ rfl rfl rfl zf1;simp only [List.drop,List.take] at h0 h1;obtain ⟨a,e0⟩:=zrC Tryz.underlying3 h0;obtain ⟨b,e1⟩:=zrC Tryz.underlying3 h1;simp only [List.cons.injEq,and_true] at e0 e1;exact ⟨a,b,by rw [e0,e1]⟩
theorem zuM {n:Nat}{cs:List Value}(h:TrK enc W n 94 cs):∃d:Dc,RDc W cs d/\SzS d.s:=by
 obtain ⟨n,rfl,hl,hf⟩:=zqg Tryz.underlying94 h;rw [zw1] at hl;obtain ⟨c0,c1,c2,c3,c4,rfl⟩:=zyx hl;have h0:=zrI (t:=9) (o:=0) hf 0 _ rfl rfl rfl zvt;have h1:=zrI (t:=91) (o:=1) hf 1 _ rfl rfl rfl zy6;simp only [List.drop,List.take] at h0 h1;obtain ⟨s,e0,hs⟩:=zsJ h0;obtain ⟨n,rfl,_,hf⟩:=zqg Tryz.underlying91 h1;have g0:=zrI (t:=25) (o:=0) hf 0 _ rfl rfl rfl zvs;have g1:=zrI (t:=25) (o:=2) hf 1 _ rfl rfl rfl zvs;simp only [List.drop,List.take] at g0 g1;obtain ⟨a,b,e1⟩:=zss g0;obtain ⟨c,d,e2⟩:=zss g1;simp only [List.cons.injEq,and_true] at e0 e1 e2;obtain ⟨rfl,rfl⟩:=e1;obtain ⟨rfl,rfl⟩:=e2;subst e0;exact ⟨⟨s,a,b,c,d⟩,rfl,hs⟩
abbrev FW (W:World):Nat->Prop:=fun b=>b<W.heap.size
theorem zv1 {α:Type}{k:Nat}{R:World->List Value->α->Prop}{A:Option Addr}{n c:Nat}{xs:List α}(h:Sl k R W A n c xs):InF (FW W) A n:=fun hn=>by
 obtain ⟨b,off,e,hb,_⟩:=h.at_ hn;exact ⟨b,off,e,hb⟩
theorem zuN:∀ (n:Nat) (cs:List Value),TrK enc W n 82 cs->∃x:Xn,RX (FW W) n W cs x/\SzX x:=by
 intro n
 induction n using Nat.strongRecOn with
 | _ n ih=>
  intro cs h;obtain ⟨n,rfl,hl,hf⟩:=zqg Tryz.underlying82 h;rw [zwU] at hl;obtain ⟨c0,c1,c2,c3,c4,c5,rfl⟩:=zcd hl;have h0:=zrI (t:=3) (o:=0) hf 0 _ rfl rfl rfl zf1;have h1:=zrI (t:=25) (o:=1) hf 1 _ rfl rfl rfl zvs;have h2:=zrI (t:=9) (o:=3) hf 2 _ rfl rfl rfl zvt;have h3:=zrI (t:=3) (o:=4) hf 3 _ rfl rfl rfl zf1;have h4:=zrI (t:=80) (o:=5) hf 4 _ rfl rfl rfl zy3;simp only [List.drop,List.take] at h0 h1 h2 h3 h4;obtain ⟨k,e0⟩:=zrC Tryz.underlying3 h0;obtain ⟨a,b,e1⟩:=zss h1;obtain ⟨s,e2,hs⟩:=zsJ h2;obtain ⟨m,e3⟩:=zrC Tryz.underlying3 h3;obtain ⟨A,q,c,xs,e4,hS,_⟩:=zqz (R:=fun W' vs x=>RX (FW W) n W' vs x/\SzX x) Tryz.underlying80 zwU (by omega) (fun j cs hj ht=>by
   obtain ⟨x,g1,g2⟩:=ih j (by omega) cs ht;exact ⟨x,RX.ups (by omega) g1,g2⟩) h4
  simp only [List.cons.injEq,and_true] at e0 e1 e2 e3 e4;obtain ⟨rfl,rfl⟩:=e1;subst e0 e2 e3 e4;obtain ⟨hS1,hS2⟩:=hS.all;exact ⟨.mk k a b s m xs,⟨A,q,c,rfl,hS1,zv1 hS1⟩,SzX.mk hs hS2⟩
theorem zyz {t:TypeId}{f0 f1:Field}(ht:Tryz.prog.underlying t=some (.struct #[f0,f1])) (hk:Tryz.prog.cellsOf t=7) (h0:f0.type=9/\f0.offset=0) (h1:f1.type=82/\f1.offset=1) (n:Nat) (cs:List Value) (h:TrK enc W n t cs):∃x:Eq1,RQ (FW W) n W cs x/\SzQ x:=by
 obtain ⟨n,rfl,hl,hf⟩:=zqg ht h;rw [hk] at hl;obtain ⟨c0,c1,c2,c3,c4,c5,c6,rfl⟩:=zce hl;have g0:=zrI hf 0 f0 rfl h0.1 h0.2 zvt;have g1:=zrI hf 1 f1 rfl h1.1 h1.2 zwU;simp only [List.drop,List.take] at g0 g1;obtain ⟨s,e0,hs⟩:=zsJ g0;obtain ⟨x,hx,hz⟩:=zuN n _ g1;simp only [List.cons.injEq,and_true] at e0;subst e0;exact ⟨⟨s,x⟩,⟨_,rfl,RX.up _ _ _ hx⟩,hs,hz⟩
theorem RQ.ups {F:Nat->Prop}{d d':Nat}(hd:d<=d') {us:List Value}{x:Eq1}(h:RQ F d W us x):RQ F d' W us x:=by
 obtain ⟨vs,e,h⟩:=h;exact ⟨vs,e,RX.ups hd h⟩
theorem zwB (n:Nat) (cs:List Value) (h:TrK enc W n 89 cs):∃x:Ed,REd (FW W) n W cs x/\SzE x:=by
 obtain ⟨n,rfl,hl,hf⟩:=zqg Tryz.underlying89 h;rw [zyt] at hl;obtain ⟨c0,c1,c2,c3,c4,c5,c6,c7,c8,rfl⟩:=zy9 hl;have h0:=zrI (t:=82) (o:=0) hf 0 _ rfl rfl rfl zwU;have h1:=zrI (t:=3) (o:=6) hf 1 _ rfl rfl rfl zf1;have h2:=zrI (t:=9) (o:=7) hf 2 _ rfl rfl rfl zvt;have h3:=zrI (t:=87) (o:=8) hf 3 _ rfl rfl rfl zy7;simp only [List.drop,List.take] at h0 h1 h2 h3;obtain ⟨x,hx,hz⟩:=zuN n _ h0;obtain ⟨d,e1⟩:=zrC Tryz.underlying3 h1;obtain ⟨s,e2,hs⟩:=zsJ h2;obtain ⟨A,q,c,xs,e3,hS,_⟩:=zqz (R:=fun W' vs x=>RQ (FW W) (n+1) W' vs x/\SzQ x) Tryz.underlying87 zyw (by omega) (fun j cs hj ht=>by
  obtain ⟨x,g1,g2⟩:=zyz Tryz.underlying86 zyw ⟨rfl,rfl⟩ ⟨rfl,rfl⟩ j cs ht;exact ⟨x,RQ.ups (by omega) g1,g2⟩) h3
 simp only [List.cons.injEq,and_true] at e1 e2 e3;subst e1 e2 e3;obtain ⟨hS1,hS2⟩:=hS.all;exact ⟨⟨x,d,s,xs⟩,⟨_,A,q,c,rfl,RX.up _ _ _ hx,hS1⟩,hz,hs,hS2⟩
theorem REd.ups {F:Nat->Prop}{d d':Nat}(hd:d<=d') {us:List Value}{x:Ed}(h:REd F d W us x):REd F d' W us x:=by
 obtain ⟨vs,A,n,c,e,h,h1⟩:=h;exact ⟨vs,A,n,c,e,RX.ups hd h,h1.imp fun _ _ h=>RQ.ups hd h⟩
theorem zwC (n:Nat) (cs:List Value) (h:TrK enc W n 60 cs):∃x:Md,RMd (FW W) n W cs x/\SzM x:=by
 obtain ⟨n,rfl,hl,hf⟩:=zqg Tryz.underlying60 h;rw [zyv] at hl;obtain ⟨c0,c1,c2,rfl⟩:=zUL hl;have h0:=zrI (t:=9) (o:=0) hf 0 _ rfl rfl rfl zvt;have h1:=zrI (t:=57) (o:=1) hf 1 _ rfl rfl rfl zy2;have h2:=zrI (t:=58) (o:=2) hf 2 _ rfl rfl rfl zy1;simp only [List.drop,List.take] at h0 h1 h2;obtain ⟨s,e0,hs⟩:=zsJ h0;obtain ⟨A,q,c,xs,e1,hS,_⟩:=zqz (R:=fun W' vs x=>RQ (FW W) (n+1) W' vs x/\SzQ x) Tryz.underlying57 zyu (by omega) (fun j cs hj ht=>by
  obtain ⟨x,g1,g2⟩:=zyz Tryz.underlying95 zyu ⟨rfl,rfl⟩ ⟨rfl,rfl⟩ j cs ht;exact ⟨x,RQ.ups (by omega) g1,g2⟩) h1
 obtain ⟨B,r,d,ys,e2,hT,_⟩:=zqz (R:=fun W' vs x=>REd (FW W) (n+1) W' vs x/\SzE x) Tryz.underlying58 zyt (by omega) (fun j cs hj ht=>by
  obtain ⟨x,g1,g2⟩:=zwB j cs ht;exact ⟨x,REd.ups (by omega) g1,g2⟩) h2
 simp only [List.cons.injEq,and_true] at e0 e1 e2;subst e0 e1 e2;obtain ⟨hS1,hS2⟩:=hS.all;obtain ⟨hT1,hT2⟩:=hT.all;exact ⟨⟨s,xs,ys⟩,⟨A,q,c,B,r,d,rfl,hS1,hT1⟩,hs,hS2,hT2⟩
theorem RMd.ups {F:Nat->Prop}{d d':Nat}(hd:d<=d') {us:List Value}{x:Md}(h:RMd F d W us x):RMd F d' W us x:=by
 obtain ⟨A,n,c,B,m,q,e,h,h1⟩:=h;exact ⟨A,n,c,B,m,q,e,h.imp fun _ _ h=>RQ.ups hd h,h1.imp fun _ _ h=>REd.ups hd h⟩
theorem zwD (n:Nat) (cs:List Value) (h:TrK enc W n 27 cs):∃x:Pb,RPb (FW W) n W cs x/\SzP x:=by
 obtain ⟨n,rfl,hl,hf⟩:=zqg Tryz.underlying27 h;rw [zy5] at hl;obtain ⟨c0,c1,c2,c3,c4,rfl⟩:=zyx hl;have h0:=zrI (t:=22) (o:=0) hf 0 _ rfl rfl rfl zys;have h1:=zrI (t:=22) (o:=1) hf 1 _ rfl rfl rfl zys;have h2:=zrI (t:=23) (o:=2) hf 2 _ rfl rfl rfl zy4;have h3:=zrI (t:=25) (o:=3) hf 3 _ rfl rfl rfl zvs;simp only [List.drop,List.take] at h0 h1 h2 h3;obtain ⟨A,q,c,xs,e0,hS,hA⟩:=zqz (R:=fun W' vs x=>RDc W' vs x/\SzS x.s) Tryz.underlying22 zw1 (by omega) (fun j cs hj ht=>zuM ht) h0;obtain ⟨B,r,d,ys,e1,hT,hB⟩:=zqz (R:=fun W' vs x=>RDc W' vs x/\SzS x.s) Tryz.underlying22 zw1 (by omega) (fun j cs hj ht=>zuM ht) h1;obtain ⟨C,i,j,zs,e2,hU,_⟩:=zqz (R:=fun W' vs x=>RMd (FW W) (n+1) W' vs x/\SzM x) Tryz.underlying23 zyv (by omega) (fun j cs hj ht=>by
  obtain ⟨x,g1,g2⟩:=zwC j cs ht;exact ⟨x,RMd.ups (by omega) g1,g2⟩) h2
 obtain ⟨a,b,e3⟩:=zss h3;simp only [List.cons.injEq,and_true] at e0 e1 e2 e3;obtain ⟨rfl,rfl⟩:=e3;subst e0 e1 e2;obtain ⟨hS1,hS2⟩:=hS.all;obtain ⟨hT1,hT2⟩:=hT.all;obtain ⟨hU1,hU2⟩:=hU.all;exact ⟨⟨xs,ys,zs,a,b⟩,⟨A,q,c,B,r,d,C,i,j,rfl,hS1,hT1,hU1,hA,hB⟩,hS2,hT2,hU2⟩
theorem zvL {b0:Nat}{v:Value}{d:DataW H}{p:List MemPlace}(hv:Value.okWide Tryz.prog W .any b0 27 v) (h:DataW.Trod enc Tryz.prog W 0 (fun _=>true) true 27 v d p) :
  ∃ (n:Nat) (vs:List Value) (x:Pb),v=.agg vs.toArray/\RPb (FW W) n W vs x/\SzP x:=by
 obtain ⟨cs,rfl,_⟩:=okWide_struct Tryz.underlying27 hv;obtain ⟨fuel,hf⟩:=h;obtain ⟨x,hx⟩:=zwD fuel _ ⟨_,hf⟩;exact ⟨fuel,_,x,by simp [Value.cells],hx⟩
theorem zuP {b0:Nat}{v:Value}{d:DataW H}{p:List MemPlace}(hv:Value.okWide Tryz.prog W .any b0 32 v) (h:DataW.Trod enc Tryz.prog W 0 (fun _=>true) true 32 v d p) :
  ∃ (me od pr tl mo:Int) (ds:List Value) (x:Dy),v=.agg (([.int .i64 me,.int .i64 od,.int .i64 pr]:List Value)++ds++([.int .i64 tl,.int .i64 mo]:List Value)).toArray/\RD W ds x:=by
 obtain ⟨cs,rfl,_⟩:=okWide_struct Tryz.underlying32 hv;obtain ⟨fuel,hf⟩:=h;obtain ⟨n,rfl,hl,hf⟩:=zqg Tryz.underlying32 ⟨_,hf⟩;rw [show Tryz.prog.cellsOf 32=8 by kernel_rfl] at hl;obtain ⟨c0,c1,c2,c3,c4,c5,c6,c7,e⟩:=zcf hl;rw [e] at hf;have h0:=zrI (t:=3) (o:=0) hf 0 _ rfl rfl rfl zf1;have h1:=zrI (t:=3) (o:=1) hf 1 _ rfl rfl rfl zf1;have h2:=zrI (t:=3) (o:=2) hf 2 _ rfl rfl rfl zf1;have h3:=zrI (t:=30) (o:=3) hf 3 _ rfl rfl rfl zJV;have h4:=zrI (t:=3) (o:=6) hf 4 _ rfl rfl rfl zf1;have h5:=zrI (t:=3) (o:=7) hf 5 _ rfl rfl rfl zf1;simp only [List.drop,List.take] at h0 h1 h2 h3 h4 h5;obtain ⟨me,e0⟩:=zrC Tryz.underlying3 h0;obtain ⟨od,e1⟩:=zrC Tryz.underlying3 h1;obtain ⟨pr,e2⟩:=zrC Tryz.underlying3 h2;obtain ⟨x,hx⟩:=h3;obtain ⟨x,hx⟩:=zI0 hx;obtain ⟨tl,e4⟩:=zrC Tryz.underlying3 h4;obtain ⟨mo,e5⟩:=zrC Tryz.underlying3 h5;simp only [List.cons.injEq,and_true] at e0 e1 e2 e4 e5;subst e0 e1 e2 e4 e5;refine ⟨me,od,pr,tl,mo,_,x,?_,hx⟩;have:cs.toList=([.int .i64 me,.int .i64 od,.int .i64 pr,c3,c4,c5,.int .i64 tl,.int .i64 mo]:List Value):=by simpa [Value.cells] using e
 rw [<- Array.toArray_toList (xs:=cs),this];rfl
end
end Go.Proofs.YtngjhigieajkmaaGreatDoor
end
