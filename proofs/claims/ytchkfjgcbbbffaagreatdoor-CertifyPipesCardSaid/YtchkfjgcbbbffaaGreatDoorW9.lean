/- Bundle 9: what the law's walk stands on: C3, Red, S25, S26, S27, S28, S1, S3, C4. -/
import Derived.Deep.RegionHeld
import Derived.Lib.Hide
import Derived.BigQuiet
import Derived.Deep.DeepCutAuto
import Derived.Deep.RegionHeld3
import Derived.Laws.EntriesVeiled
import Derived.Test.YtchkfjgcbbbffaaGreatDoorW3
import Derived.Test.YtchkfjgcbbbffaaGreatDoorW4
import Derived.Test.YtchkfjgcbbbffaaGreatDoorW8
set_option maxRecDepth 100000
set_option maxHeartbeats 20000000
set_option linter.all false
noncomputable section
namespace Go.Proofs.YtchkfjgcbbbffaaGreatDoor
open Go.RowKit Pl Go.Shelf
def Bd (d:Dy):Prop:=d.l.length<=1000
def BdI (x:Iv):Prop:=Bd x.lo/\Bd x.hi
structure BdF (f:Fr):Prop where
 c:∀d∈f.c,Bd d
 a:∀l∈f.a,∀d∈l,Bd d
 r:∀x∈f.r,BdI x
structure BdL (x:Lk):Prop where
 h:Bd x.h
 t:∀y∈x.tube,BdI y
 e:BdF x.e
 v:∀l∈x.v,∀d∈l,Bd d
structure BdC (x:Ct):Prop where
 s:BdF x.start
 l:∀y∈x.links,BdL y
def zro (d:Dy):Bool:=!d.neg && decide (d.l=[]) && decide (d.e=0)
def ivV (x:Iv):Bool:=if x.all then zro x.lo && zro x.hi else vld x.lo && vld x.hi && decide (zCH x.lo x.hi<=0)
def zCM (x:Iv) (d:Dy):Bool:=ivV x && vld d && (x.all || (decide (zCH x.lo d<=0) && decide (zCH d x.hi<=0)))
def zEO (b:List Iv):Bool:=decide (1<=b.length) && decide (b.length<=8) && !b.any (fun x=>x.all || !ivV x)
def frV (f:Fr):Bool:=decide (1<=f.c.length) && decide (f.c.length<=8) && decide (f.a.length=f.c.length) && decide (f.r.length=f.c.length) &&
 !f.c.any (fun d=>!vld d) && !f.a.any (fun l=>decide (l.length≠f.c.length) || l.any (fun d=>!vld d)) && !f.r.any (fun x=>x.all || !zCM x zAZ)
section
variable {w:World}{g:Nat}{t:TypeId}
theorem Blk.cells1 {a:Value}(h:Blk w g t #[a]):w.cell? ⟨g,0,none⟩=some a:=h.cell 0
theorem Blk.cells6 {a b c d e f:Value}(h:Blk w g t #[a,b,c,d,e,f]):w.cell? ⟨g,0,none⟩=some a/\w.cell? ⟨g,1,none⟩=some b/\w.cell? ⟨g,2,none⟩=some c/\w.cell? ⟨g,3,none⟩=some d/\w.cell? ⟨g,4,none⟩=some e/\w.cell? ⟨g,5,none⟩=some f:=
 ⟨h.cell 0,h.cell 1,h.cell 2,h.cell 3,h.cell 4,h.cell 5⟩
theorem Blk.cells7 {a b c d e f i:Value}(h:Blk w g t #[a,b,c,d,e,f,i]):w.cell? ⟨g,0,none⟩=some a/\w.cell? ⟨g,1,none⟩=some b/\w.cell? ⟨g,2,none⟩=some c/\w.cell? ⟨g,3,none⟩=some d/\w.cell? ⟨g,4,none⟩=some e/\w.cell? ⟨g,5,none⟩=some f/\w.cell? ⟨g,6,none⟩=some i:=
 ⟨h.cell 0,h.cell 1,h.cell 2,h.cell 3,h.cell 4,h.cell 5,h.cell 6⟩
theorem Blk.cells8 {a b c d e f i j:Value}(h:Blk w g t #[a,b,c,d,e,f,i,j]):w.cell? ⟨g,0,none⟩=some a/\w.cell? ⟨g,1,none⟩=some b/\w.cell? ⟨g,2,none⟩=some c/\w.cell? ⟨g,3,none⟩=some d/\w.cell? ⟨g,4,none⟩=some e/\w.cell? ⟨g,5,none⟩=some f/\w.cell? ⟨g,6,none⟩=some i/\w.cell? ⟨g,7,none⟩=some j:=
 ⟨h.cell 0,h.cell 1,h.cell 2,h.cell 3,h.cell 4,h.cell 5,h.cell 6,h.cell 7⟩
theorem Blk.next {w':World}{cs:Array Value}(h:Blk w g t cs) (hb:Below w.heap.size w w'):Blk w' g t cs:=h.below hb h.lt
end
theorem zEl (vs:List Value) (d:Dy) (w:World) (h:RD w vs d) (hd:Bd d):Calls Tryz.prog 47 #[.agg vs.toArray] w (zBW (vld d) w):=by
 obtain ⟨A,n,c,rfl,hs⟩:=h;have:=hs.len;unfold Bd at hd;exact zA4 d.neg A n c d.l d.e w hs (by omega)
theorem zIW (vs us:List Value) (d d':Dy) (w:World) (h:RD w vs d) (h':RD w us d') (hd:Bd d) (hd':Bd d') :
  Calls Tryz.prog 25 #[.agg vs.toArray,.agg us.toArray] w fun e w'=>e=.returned (.int .i64 (zCH d d'))/\Below w.heap.size w w':=by
 obtain ⟨A,n,c,rfl,hs⟩:=h;obtain ⟨B,m,c',rfl,hs'⟩:=h';have:=hs.len;have:=hs'.len;unfold Bd at hd hd';exact zLb d.neg d'.neg A B n c m c' d.l d'.l d.e d'.e w hs hs' (by omega) (by omega)
theorem zJq (vs:List Value) (d:Dy) (w:World) (h:RD w vs d):Calls Tryz.prog 178 #[.agg vs.toArray] w (zBW (zro d) w):=by
 obtain ⟨A,n,c,rfl,hs⟩:=h;obtain ⟨neg,l,x⟩:=d;dsimp only at hs ⊢;have hl:decide (l=[])=decide (n=0):=Xl.2 ⟨fun e=>by rw [<- hs.len,e];rfl,fun e=>hs.empty e⟩;have HZ:Hid (zro ⟨neg,l,x⟩=(!neg && decide (n=0) && decide (x=0))):=by unfold Hid zro;rw [<- hl]
 have hm:=hs.cap;have hm2:=hs.max;clear hl hs;cases neg
 ·by_cases h0:n=0
  ·subst h0
   by_cases hx:x=0
   ·subst hx
    go_enter Tryz.func178,Tryz.ntmps178
    go_wp2_with fail
    go_ret;exact ⟨by rw [HZ.out];simp,zAE _ _⟩
   ·have hx2:(x == 0)=false:=by simpa using hx
    go_enter Tryz.func178,Tryz.ntmps178
    go_wp2_with fail
    go_ret;exact ⟨by rw [HZ.out];simp [hx],zAE _ _⟩
  ·have hn2:((n:Int) == 0)=false:=by simpa using h0
   go_enter Tryz.func178,Tryz.ntmps178
   go_wp2_with fail
   go_ret;exact ⟨by rw [HZ.out];simp [h0],zAE _ _⟩
 ·go_enter Tryz.func178,Tryz.ntmps178
  go_wp2_with fail
  go_ret;exact ⟨by rw [HZ.out];simp,zAE _ _⟩
theorem zD9 (vs:List Value) (x:Iv) (w:World) (h:RI w vs x) (hx:BdI x):Calls Tryz.prog 102 #[.agg vs.toArray] w (zBW (ivV x) w):=by
 obtain ⟨A,n,c,B,m,d,rfl,h1,h2⟩:=h;obtain ⟨⟨ln,ll,le⟩,⟨un,ul,ue⟩,al⟩:=x;dsimp only at h1 h2 ⊢;have r1:RD w [.bool ln,.slice A n c,.int .i64 le] ⟨ln,ll,le⟩:=⟨A,n,c,rfl,h1⟩;have r2:RD w [.bool un,.slice B m d,.int .i64 ue] ⟨un,ul,ue⟩:=⟨B,m,d,rfl,h2⟩;have hb0:=zAE w (.cells #[.bool ln,.slice A n c,.int .i64 le,.bool un,.slice B m d,.int .i64 ue,.bool al] 43);have k0:=Blk.new w 43 #[.bool ln,.slice A n c,.int .i64 le,.bool un,.slice B m d,.int .i64 ue,.bool al];have H1:=Zh (fun W hb=>zAQ w W _ _ r1 hb);have H2:=Zh (fun W hb=>zAQ w W _ _ r2 hb);have HX:=Zh hx;clear h1 h2 hx r1 r2;cases al
 ·have HV:Hid (ivV ⟨⟨ln,ll,le⟩,⟨un,ul,ue⟩,false⟩=(vld ⟨ln,ll,le⟩ && vld ⟨un,ul,ue⟩ && decide (zCH ⟨ln,ll,le⟩ ⟨un,ul,ue⟩<=0))):=rfl
  go_enter Tryz.func102,Tryz.ntmps102
  go_wp2_with fail
  generalize w.alloc (.cells #[.bool ln,.slice A n c,.int .i64 le,.bool un,.slice B m d,.int .i64 ue,.bool false] 43)=W0 at *;refine (zEl _ _ _ (H1.out _ hb0) HX.out.1).mono ?_;rintro e w1 ⟨rfl,hb1⟩
  replace hb0:=zAA hb0 hb1;replace k0:=k0.next hb1;clear hb1;cases hv1:vld ⟨ln,ll,le⟩
  ·rw [hv1] at HV
   clear hv1;go_wp2_with fail
   go_ret;exact ⟨by rw [HV.out];rfl,hb0⟩
  rw [hv1] at HV;clear hv1;obtain ⟨q0,q1,q2,q3,q4,q5,q6⟩:=k0.cells7;go_wp2_with fail
  refine (zEl _ _ _ (H2.out _ hb0) HX.out.2).mono ?_;rintro e w2 ⟨rfl,hb2⟩
  clear q0 q1 q2 q3 q4 q5 q6;replace hb0:=zAA hb0 hb2;replace k0:=k0.next hb2;clear hb2;cases hv1:vld ⟨un,ul,ue⟩
  ·rw [hv1] at HV
   clear hv1;go_wp2_with fail
   go_ret;exact ⟨by rw [HV.out];rfl,hb0⟩
  rw [hv1] at HV;clear hv1;obtain ⟨q0,q1,q2,q3,q4,q5,q6⟩:=k0.cells7;go_wp2_with fail
  refine (zIW _ _ _ _ _ (H1.out _ hb0) (H2.out _ hb0) HX.out.1 HX.out.2).mono ?_;rintro e w3 ⟨rfl,hb3⟩
  clear q0 q1 q2 q3 q4 q5 q6;replace hb0:=zAA hb0 hb3;clear hb3 k0;generalize zCH ⟨ln,ll,le⟩ ⟨un,ul,ue⟩=r at *;go_wp2_with fail
  go_ret;exact ⟨by rw [HV.out];rfl,hb0⟩
 ·have HV:Hid (ivV ⟨⟨ln,ll,le⟩,⟨un,ul,ue⟩,true⟩=(zro ⟨ln,ll,le⟩ && zro ⟨un,ul,ue⟩)):=rfl
  go_enter Tryz.func102,Tryz.ntmps102
  go_wp2_with fail
  generalize w.alloc (.cells #[.bool ln,.slice A n c,.int .i64 le,.bool un,.slice B m d,.int .i64 ue,.bool true] 43)=W0 at *;refine (zJq _ _ _ (H1.out _ hb0)).mono ?_;rintro e w1 ⟨rfl,hb1⟩
  replace hb0:=zAA hb0 hb1;replace k0:=k0.next hb1;clear hb1;cases hv1:zro ⟨ln,ll,le⟩
  ·rw [hv1] at HV
   clear hv1;go_wp2_with fail
   go_ret;exact ⟨by rw [HV.out];rfl,hb0⟩
  rw [hv1] at HV;clear hv1;obtain ⟨q0,q1,q2,q3,q4,q5,q6⟩:=k0.cells7;go_wp2_with fail
  refine (zJq _ _ _ (H2.out _ hb0)).mono ?_;rintro e w2 ⟨rfl,hb2⟩
  clear q0 q1 q2 q3 q4 q5 q6;replace hb0:=zAA hb0 hb2;clear hb2 k0;generalize zro ⟨un,ul,ue⟩=r at *;go_wp2_with fail
  go_ret;exact ⟨by rw [HV.out];rfl,hb0⟩
section
variable (w:World) (c:Array Value) (t:TypeId) (c':Array Value) (t':TypeId) (d:Array Value) (s:TypeId) (d':Array Value) (s':TypeId)
theorem al2:∃W,(w.alloc (.cells c t)).alloc (.cells c' t')=W/\Below w.heap.size w W/\Blk W w.heap.size t c/\Blk W (w.heap.size+1) t' c':=
 ⟨_,rfl,zAA (zAE _ _) (zAE _ _),(Blk.new _ _ _).alloc _,Blk.newAt _ _ _ (by simp)⟩
theorem al3:∃W,((w.alloc (.cells c t)).alloc (.cells c' t')).alloc (.cells d s)=W/\Below w.heap.size w W/\Blk W w.heap.size t c/\Blk W (w.heap.size+1) t' c'/\Blk W (w.heap.size+1+1) s d:=by
 obtain ⟨W,e,hb,h1,h2⟩:=al2 w c t c' t';rw [e];have hs:w.heap.size+1+1=W.heap.size:=by rw [<- e];simp
 exact ⟨_,rfl,zAA hb (zAE _ _),h1.alloc _,h2.alloc _,hs ▸ Blk.new _ _ _⟩
theorem al4:∃W,(((w.alloc (.cells c t)).alloc (.cells c' t')).alloc (.cells d s)).alloc (.cells d' s')=W/\Below w.heap.size w W/\Blk W w.heap.size t c/\Blk W (w.heap.size+1) t' c'/\Blk W (w.heap.size+1+1) s d/\Blk W (w.heap.size+1+1+1) s' d':=by
 obtain ⟨W,e,hb,h1,h2,h3⟩:=al3 w c t c' t' d s;rw [e];have hs:w.heap.size+1+1+1=W.heap.size:=by rw [<- e];simp
 exact ⟨_,rfl,zAA hb (zAE _ _),h1.alloc _,h2.alloc _,h3.alloc _,hs ▸ Blk.new _ _ _⟩
end
section
variable {P:Program}{ops:Array Oper}{Q:Exit->Act->World->Prop}{md:Region.Mode}{S:World->Prop}{fuel:Nat}{listed:Array Bool}{a:Act}{w:World}{d:Option Tmp}{o:Op}{t:TypeId}{p:String}{af:Array Edge}{g:Option (Nat×Bool)}{v:Value}
theorem tkh (i:Nat) (hS:S w) (h:wpAnyH P md ops Q S fuel (listed.setIfInBounds i true) (a.put d v) w) (hi:ops[i]? = some ⟨d,o,t,p,af,g⟩:=by rfl) (hs:Region.noSelect ops=true:=by kernel_rfl) (hf:Region.free md ops listed i=true:=by kernel_rfl)
  (hr:(Region.ready md ops listed).contains i=true:=by kernel_rfl) (hw:Region.wanted ⟨d,o,t,p,af,g⟩ (yielded ops a.tmps)=true:=by rfl)
  (hv:∀w,S w->(execOp a.eval ⟨d,o,t,p,af,g⟩).run P w=.ok (.value v) w:=by (intro w hSw; (try dsimp only at hSw);go_simp;try (with_reducible rfl))) (hQ:∀c a w,Q (.panic c) (a.put d v) w->Q (.panic c) a w:=by exact fun _ _ _ h=>h):wpAnyH P md ops Q S (fuel+1) listed a w:=
 wpAnyH_take hi hs hf hr hQ (Or.inl ⟨hw,hv⟩) hS h
theorem tkc {C:World->Prop}(i:Nat) (hC:∀w,S w->C w) (hS:S w) (h:wpAnyH P md ops Q S fuel (listed.setIfInBounds i true) (a.put d v) w) (hi:ops[i]? = some ⟨d,o,t,p,af,g⟩:=by rfl) (hs:Region.noSelect ops=true:=by kernel_rfl) (hf:Region.free md ops listed i=true:=by kernel_rfl)
  (hr:(Region.ready md ops listed).contains i=true:=by kernel_rfl) (hw:Region.wanted ⟨d,o,t,p,af,g⟩ (yielded ops a.tmps)=true:=by rfl)
  (hv:∀w,C w->(execOp a.eval ⟨d,o,t,p,af,g⟩).run P w=.ok (.value v) w:=by (intro w hSw; (try dsimp only at hSw);go_simp;try (with_reducible rfl))) (hQ:∀c a w,Q (.panic c) (a.put d v) w->Q (.panic c) a w:=by exact fun _ _ _ h=>h):wpAnyH P md ops Q S (fuel+1) listed a w:=
 wpAnyH_take hi hs hf hr hQ (Or.inl ⟨hw,fun w h=>hv w (hC w h)⟩) hS h
theorem rdh (i:Nat) (h:∀K':Act->World->Prop,Shut (∀a w,S w->(S w->wpAnyH P md ops Q S fuel (listed.setIfInBounds i true) a w)->K' a w)->if Region.wanted ⟨d,o,t,p,af,g⟩ (yielded ops a.tmps)=true then Oper.wp P ⟨d,o,t,p,af,g⟩ a w K' Q else K' (a.put d undef) w)
  (hi:ops[i]? = some ⟨d,o,t,p,af,g⟩:=by rfl) (hr:Region.ready md ops listed=[i]:=by kernel_rfl):wpAnyH P md ops Q S (fuel+1) listed a w:=
 Yj hr (by simp) (Yc hi h Yd)
end
theorem znJ (A:Option Addr) (n c k:Nat) (l:List Nat) (w:World) (h:SL w A n c l) (hn:n<=256) (hk:k<=65536) (hs:(zAa (val l*2^k)).length<=256) :
  Calls Tryz.prog 323 #[.slice A n c,.int .i64 (k:Int)] w (zPh (zAa (val l*2^k)) w):=by
 have H:=Zh (zRB A n c k l w h hn hk hs);clear hs;generalize zAa (val l*2^k)=r at *;go_enter Tryz.func323,Tryz.ntmps323
 go_wp2_with fail
 refine H.out.mono ?_;rintro e w1 ⟨A1,n1,c1,rfl,hs1,hf1,hb1⟩
 go_wp2_with fail
 go_ret;exact ⟨_,_,_,rfl,hs1,hf1,hb1⟩
def zn3 (M k:Nat):Nat:=if zAT M<k then zAT M else k
def znq (M k:Nat):Nat:=M / 2^zn3 M k
def zpD (M k:Nat):Bool:=zCT (znq M k*2^zn3 M k) M != 0
theorem zpr (M k:Nat):znq M k*2^zn3 M k<=M:=Nat.div_mul_le_self _ _
def zqG (l:List Nat) (b:Bool) (w:World) (e:Ending) (w':World):Prop:=∃A n c,e=.returned (.tuple #[.slice A n c,.bool b])/\SL w' A n c l/\zAn w.heap.size A n/\Below w.heap.size w w'
theorem zoW (A:Option Addr) (n c k:Nat) (l:List Nat) (w:World) (h:SL w A n c l) (hn:n<=256) (hk:k<=65536) :
  Calls Tryz.prog 324 #[.slice A n c,.int .i64 (k:Int)] w (zqG (zAa (znq (val l) k)) (zpD (val l) k) w):=by
 have hbl:zAT (val l)<=8192:=by
  have h2:=h.len;refine Yq (zBH (val l) (32*l.length) ?_) (by omega);have h1:=zB0 l h.lt;rw [Nat.pow_mul];exact h1
 have hkk:zn3 (val l) k<=65536:=by unfold zn3;split <;> omega
 have hle:znq (val l) k*2^zn3 (val l) k<=val l:=zpr _ _;have hle2:znq (val l) k<=val l:=Nat.div_le_self _ _;have H1:=Zh (fun W (hb:Below w.heap.size w W)=>zRC A n c (zn3 (val l) k) l W (h.below hb) hn hkk);have H2:=Zh (fun (A1:Option Addr) (n1 c1:Nat) W (hs:SL W A1 n1 c1 (zAa (znq (val l) k)))=>znJ A1 n1 c1 (zn3 (val l) k) _ W hs (by rw [<- hs.len];exact zCR h.lt (by rw [h.len];exact hn) hle2) hkk (by rw [zAH];exact zCR h.lt (by rw [h.len];exact hn) hle));have H3:=Zh (fun (A1:Option Addr) (n1 c1:Nat) (l1:List Nat) W (hs:SL W A1 n1 c1 l1) (hb:Below w.heap.size w W)=>zDN A1 A n1 c1 n c l1 l W hs (h.below hb));have HB:=Zh (fun W (hb:Below w.heap.size w W)=>zLX A n c l W (h.below hb) (by omega));have HK:Hid (zn3 (val l) k=if zAT (val l)<k then zAT (val l) else k):=rfl;have HD:Hid (val l / 2^zn3 (val l) k=znq (val l) k):=rfl;have HV:Hid (val (zAa (val (zAa (znq (val l) k))*2^zn3 (val l) k))=znq (val l) k*2^zn3 (val l) k):=by unfold Hid;rw [zAH,zAH]
 have HLL:Hid (zpD (val l) k=(zCT (val (zAa (val (zAa (znq (val l) k))*2^zn3 (val l) k))) (val l) != 0)):=by unfold Hid;rw [HV.out];rfl
 rw [HD.out] at H1;clear HV HD hle hle2 hkk h;generalize zpD (val l) k=L at *;generalize znq (val l) k=M at *;generalize zn3 (val l) k=K at *;generalize zAa (val (zAa M)*2^K)=l2 at *;have hHB:=HB.out w (Yp _ _);by_cases hlt:zAT (val l)<k
 ·have hlt':((zAT (val l):Nat):Int)<(k:Int):=by omega
  rw [if_pos hlt] at HK;have hk2:K=zAT (val l):=HK.out;rw [<- hk2] at hlt' hHB;clear hlt hk2 HK HB;go_enter Tryz.func324,Tryz.ntmps324
  go_wp2_with (go_at_call 242;refine hHB.mono ?_;rintro e w' ⟨rfl,rfl⟩)
  refine (H1.out w (Yp _ _)).mono ?_;rintro e w1 ⟨A1,n1,c1,rfl,hs1,hf1,hb1⟩
  go_wp2_with fail
  refine (H2.out A1 n1 c1 w1 hs1).mono ?_;rintro e w2 ⟨A2,n2,c2,rfl,hs2,hf2,hb2⟩
  have hs3:=hs1.below hb2;have hb3:=zAA hb1 hb2;clear hs1 hb1 hb2 hf2;go_wp2_with fail
  refine (H3.out A2 n2 c2 _ w2 hs2 hb3).mono ?_;rintro e w3 ⟨rfl,q,rfl⟩
  go_wp2_with fail
  go_ret2
  exact ⟨A1,n1,c1,by rw [HLL.out];rfl,hs3.drewN q,hf1,zAR hb3 q⟩
 ·have hlt':¬ ((zAT (val l):Nat):Int)<(k:Int):=by omega
  rw [if_neg hlt] at HK;have hk2:K=k:=HK.out;subst hk2;clear hlt HK HB;go_enter Tryz.func324,Tryz.ntmps324
  go_wp2_with (go_at_call 242;refine hHB.mono ?_;rintro e w' ⟨rfl,rfl⟩)
  refine (H1.out w (Yp _ _)).mono ?_;rintro e w1 ⟨A1,n1,c1,rfl,hs1,hf1,hb1⟩
  go_wp2_with fail
  refine (H2.out A1 n1 c1 w1 hs1).mono ?_;rintro e w2 ⟨A2,n2,c2,rfl,hs2,hf2,hb2⟩
  have hs3:=hs1.below hb2;have hb3:=zAA hb1 hb2;clear hs1 hb1 hb2 hf2;go_wp2_with fail
  refine (H3.out A2 n2 c2 _ w2 hs2 hb3).mono ?_;rintro e w3 ⟨rfl,q,rfl⟩
  go_wp2_with fail
  go_ret2
  exact ⟨A1,n1,c1,by rw [HLL.out];rfl,hs3.drewN q,hf1,zAR hb3 q⟩
def znp (M:Nat) (e p:Int):Int:=max (e+(zAT M:Int) - p) (-16384)
def zou (M:Nat) (e p:Int) (more:Bool):Nat×Bool:=
 if znp M e p<=e then (M*2^(e - znp M e p).toNat,more) else (znq M (znp M e p - e).toNat,more || zpD M (znp M e p - e).toNat)
def zpt (M:Nat) (e p:Int) (more up:Bool):Nat:=if (up && (zou M e p more).2)=true then (zou M e p more).1+1 else (zou M e p more).1
def zn8 (M:Nat) (e p:Int) (more up:Bool):Dy×Int:=
 if 16384<(zAT (zpt M e p more up):Int)+znp M e p then (if up then (zAZ,9) else znb false (zAa (2^p.toNat - 1)) (16384 - p))
 else znb false (zAa (zpt M e p more up)) (znp M e p)
structure zpE (M:Nat) (e p:Int):Prop where
 m:zAT M<=8192
 e1:-40000<=e
 e2:e+(zAT M:Int)<=32768
 p1:8<=p
 p2:p<=512
theorem zoX {w:World}{g:Nat}{t:TypeId}(h:Blk w g t #[.int .u32 1]):SL w (some ⟨g,0,none⟩) 1 1 [1]:=
 ⟨rfl,by omega,by omega,by intro x hx;simp at hx;omega,fun _=>⟨g,0,rfl,h.lt,fun j x hj=>by
  match j,hj with
  | 0,hj=>simp at hj;subst hj;exact h.cell 0
  | j+1,hj=>simp at hj⟩⟩
theorem zqU {M n:Nat}(h:zAT M<=32*n):(zAa M).length<=n:=
 zBQ _ _ (by rw [zBS];exact Yh (zBu M) (Xh (by omega) h))
theorem zPI {M:Nat}(h:zAT M<=8000):(zAa M).length<=250:=zqU (by omega)
theorem zqV {p E:Nat}(h:p<E):zAT (2^p)<=E:=zBH _ _ (Nat.pow_lt_pow_right (by omega) h)
theorem zoZ (M k b:Nat) (h:zAT M<=b+k):zAT (M / 2^k)<=b:=by
 refine zBH _ _ ((Nat.div_lt_iff_lt_mul (Nat.two_pow_pos k)).2 ?_);rw [<- Nat.pow_add];exact Yh (zBu M) (Xh (by omega) h)
theorem zov (M:Nat) (e p:Int) (more:Bool) (h:zpE M e p):zAT (zou M e p more).1<=p.toNat:=by
 have hp1:=h.p1;have hp2:=h.p2;have hU:znp M e p=max (e+(zAT M:Int) - p) (-16384):=rfl;unfold zou
 split
 ·rename_i hle
  show zAT (M*2^(e - znp M e p).toNat)<=p.toNat
  rcases Xn M with h0 | h0
  ·subst h0;rw [Nat.zero_mul];exact Nat.zero_le _
  ·rw [zAc _ _ h0]
   omega
 ·rename_i hle
  show zAT (M / 2^zn3 M (znp M e p - e).toNat)<=p.toNat
  refine zoZ _ _ _ ?_;unfold zn3
  split <;> omega
theorem zpL (M:Nat) (e p:Int) (more:Bool) (h:zpE M e p):zAT (zou M e p more).1<=8000:=by
 have:=zov M e p more h;have:=h.p2;omega
theorem zpi (A:Option Addr) (n c:Nat) (l:List Nat) (e p:Int) (more up:Bool) (w:World) (h:SL w A n c l) (hn:n<=256) (hs:zpE (val l) e p) (ht:zBx w) :
  Calls Tryz.prog 325 #[.agg #[.slice A n c,.int .i64 e,.bool more],.int .i64 p,.bool up] w (zJI (zn8 (val l) e p more up).1 (zn8 (val l) e p more up).2 w):=by
 have hW1:=zAE w (.cells #[.slice A n c,.int .i64 e,.bool more] 290);have hW2:=zAE (w.alloc (.cells #[.slice A n c,.int .i64 e,.bool more] 290)) (.cells #[.bool false,.slice none 0 0,.int .i64 0] 41);have hb0:=zAA hW1 hW2;have kx:=(Blk.new w 290 #[.slice A n c,.int .i64 e,.bool more]).next hW2;have kr:Blk ((w.alloc (.cells #[.slice A n c,.int .i64 e,.bool more] 290)).alloc (.cells #[.bool false,.slice none 0 0,.int .i64 0] 41)) (w.heap.size+1) 41 #[.bool false,.slice none 0 0,.int .i64 0]:=Blk.newAt _ _ _ (by simp);obtain ⟨p0,p1,p2⟩:=kx.cells3;have h2:=h.below hb0;go_enter Tryz.func325,Tryz.ntmps325
 go_upto_region 1 with fail
 generalize (w.alloc (.cells #[.slice A n c,.int .i64 e,.bool more] 290)).alloc (.cells #[.bool false,.slice none 0 0,.int .i64 0] 41)=W0 at *;have HT0:=Zh (fun W (hb:Below W0.heap.size W0 W)=>(ht.next hb0).next hb);have HS0:=Zh (fun W (hb:Below W0.heap.size W0 W)=>h2.below hb);have HB0:=Zh hb0;have HKX:=Zh kx;have HKR:=Zh kr;clear p0 p1 p2 h2 hb0 kx kr h ht hW1 hW2
 go_cut [8] (fun s8 wx=>s8=.int .i64 (znp (val l) e p)/\Below W0.heap.size W0 wx)
 case first=>
  have hB:=zBw W0;have HK:Hid (∀V,Below W0.heap.size W0 V->(fun W=>Blk W w.heap.size 290 #[.slice A n c,.int .i64 e,.bool more]) V):=fun V hV=>HKX.out.next hV
  have HKp:=Zh (HK.out _ hB);have hm:=hs.m;have he1:=hs.e1;have he2:=hs.e2;have hp1:=hs.p1;have hp2:=hs.p2;have w1:IntKind.i64.wrap (e+(zAT (val l):Int))=e+(zAT (val l):Int):=IntWalk.i64_in _ (by omega);have w2:IntKind.i64.wrap (e+(zAT (val l):Int) - p)=e+(zAT (val l):Int) - p:=IntWalk.i64_in _ (by omega);have HBI:=Zh (fun W (hb:Below W0.heap.size W0 W)=>zLX A n c l W (HS0.out W hb) (by omega));have HCE:=Zh (fun (W:World) (hSw:(fun W=>Blk W w.heap.size 290 #[.slice A n c,.int .i64 e,.bool more]) W)=>Blk.cells3 hSw);refine wp_region_held_drew (S:=(fun W=>Blk W w.heap.size 290 #[.slice A n c,.int .i64 e,.bool more])) (by kernel_rfl) (HKp.out) (fun hH=>?_);generalize W0.drew=Wd at *;refine tkc 0 HCE.out hH ?_;refine tkc 1 HCE.out hH ?_;refine tkc 2 HCE.out hH ?_;refine tkc 3 HCE.out hH ?_;refine tkc 6 HCE.out hH ?_;simp only [Act.put,sT,sZ,sS];refine rdh 4 (fun K hK=>?_)
  go_simp
  refine (HBI.out _ hB).mono ?_;rintro e' w' ⟨rfl,rfl⟩
  go_wp2_with fail
  refine hK.out _ _ (HKp.out) (fun hH=>?_);clear hK K;refine tkc 5 HCE.out hH ?_;refine tkc 7 HCE.out hH ?_;refine tkc 8 HCE.out hH ?_;refine tkc 9 HCE.out hH ?_;simp only [Act.put,sT,sZ,sS];refine wpAnyH_done (by kernel_rfl) ?_ _;go_wp2_with fail
  go_meet
  exact ⟨rfl,hB⟩
 case rest=>
  obtain ⟨rfl,hbx⟩:=hcut;have HU:Hid (znp (val l) e p=max (e+(zAT (val l):Int) - p) (-16384)):=rfl;have HP:Hid (zn8 (val l) e p more up=if 16384<(zAT (zpt (val l) e p more up):Int)+znp (val l) e p then (if up then (zAZ,9) else znb false (zAa (2^p.toNat - 1)) (16384 - p)) else znb false (zAa (zpt (val l) e p more up)) (znp (val l) e p)):=rfl;have HQ:Hid (zpt (val l) e p more up=if (up && (zou (val l) e p more).2)=true then (zou (val l) e p more).1+1 else (zou (val l) e p more).1):=rfl;have HV:Hid (zou (val l) e p more=if znp (val l) e p<=e then (val l*2^(e - znp (val l) e p).toNat,more) else (znq (val l) (znp (val l) e p - e).toNat,more || zpD (val l) (znp (val l) e p - e).toNat)):=rfl;have HVL:=Zh (zpL (val l) e p more hs);generalize zn8 (val l) e p more up=PP at *;generalize zpt (val l) e p more up=QQ at *;generalize zou (val l) e p more=VV at *;generalize znp (val l) e p=UU at *;go_upto_region 2 with fail
  go_cut [9,10] (fun s9 s10 wx=>s9=.slice A n c/\s10=.bool more/\Below W0.heap.size W0 wx)
  case first=>
   have hB:=zAA hbx (zBw wc);have HK:Hid (∀V,Below W0.heap.size W0 V->(fun W=>Blk W w.heap.size 290 #[.slice A n c,.int .i64 e,.bool more]) V):=fun V hV=>HKX.out.next hV
   have HKp:=Zh (HK.out _ hB);have HCE:=Zh (fun (W:World) (hSw:(fun W=>Blk W w.heap.size 290 #[.slice A n c,.int .i64 e,.bool more]) W)=>Blk.cells3 hSw);refine wp_region_held_drew (S:=(fun W=>Blk W w.heap.size 290 #[.slice A n c,.int .i64 e,.bool more])) (by kernel_rfl) (HKp.out) (fun hH=>?_);generalize wc.drew=Wd at *;refine tkc 0 HCE.out hH ?_;refine tkc 1 HCE.out hH ?_;refine tkc 2 HCE.out hH ?_;refine tkc 3 HCE.out hH ?_;refine tkc 4 HCE.out hH ?_;refine tkc 5 HCE.out hH ?_;simp only [Act.put,sT,sZ,sS];refine wpAnyH_done (by kernel_rfl) ?_ _;go_wp2_with fail
   go_meet
   exact ⟨rfl,rfl,hB⟩
  case rest=>
   obtain ⟨rfl,rfl,hbx2⟩:=hcut;clear hbx;obtain ⟨p0,p1,p2⟩:=(HKX.out.next hbx2).cells3
   go_upto_if 29 with fail
   go_cut [9,10] (fun s9 s10 wx=>∃ (A1:Option Addr) (n1 c1:Nat),s9=.slice A1 n1 c1/\s10=.bool VV.2/\SL wx A1 n1 c1 (zAa VV.1)/\n1<=251/\Below W0.heap.size W0 wx)
   case first=>
    have HS:=Zh hs;clear hs;by_cases hle:UU<=e
    ·have hd:decide (UU<=e)=true:=Yf hle
     obtain ⟨k,hk⟩:∃k:Nat,e - UU=(k:Int):=⟨(e - UU).toNat,by omega⟩;have hk5:k<=60000:=by have:=HS.out.e1;have:=HS.out.e2;have:=HS.out.p2;have:=HU.out;omega
     have hwk:IntKind.i64.wrap (k:Int)=(k:Int):=IntWalk.i64_in _ (by omega);have HV2:Hid (VV=(val l*2^k,more)):=by unfold Hid;rw [HV.out,if_pos hle,hk];rfl
     have HD:=Zh (zPI (M:=val l*2^k) (by have:=HVL.out;rw [HV2.out] at this;exact this));clear hle;go_wp2_with fail
     refine (znJ A n c k l _ (HS0.out _ hbx2) (by omega) (by omega) (Yq HD.out (by omega))).mono ?_;rintro e' w1 ⟨A1,n1,c1,rfl,hs1,hf1,hb1⟩
     have hn1:=hs1.len;have hd1:=HD.out;go_wp2_with fail
     go_meet
     exact ⟨A1,n1,c1,rfl,by rw [HV2.out],by rw [HV2.out];exact hs1,by omega,zAA hbx2 hb1⟩
    ·have hd:decide (UU<=e)=false:=Ye hle
     obtain ⟨k,hk⟩:∃k:Nat,UU - e=(k:Int):=⟨(UU - e).toNat,by omega⟩;have hk5:k<=60000:=by have:=HS.out.e1;have:=HS.out.m;have:=HS.out.e2;have:=HS.out.p1;have:=HU.out;omega
     have hwk:IntKind.i64.wrap (k:Int)=(k:Int):=IntWalk.i64_in _ (by omega);have HV2:Hid (VV=(znq (val l) k,more || zpD (val l) k)):=by unfold Hid;rw [HV.out,if_neg hle,hk];rfl
     have HD:=Zh (zPI (M:=znq (val l) k) (by have:=HVL.out;rw [HV2.out] at this;exact this));have hlt:e<UU:=by omega
     go_wp2_with fail
     refine (zoW A n c k l _ (HS0.out _ hbx2) (by omega) (by omega)).mono ?_;rintro e' w1 ⟨A1,n1,c1,rfl,hs1,hf1,hb1⟩
     have hn1:=hs1.len;have hd1:=HD.out;generalize zpD (val l) k=lost at *;cases more
     all_goals
      go_wp2_with fail
      go_meet
      exact ⟨A1,n1,c1,rfl,by rw [HV2.out];rfl,by rw [HV2.out];exact hs1,by omega,zAA hbx2 hb1⟩
   case rest=>
    obtain ⟨A1,n1,c1,rfl,rfl,hs1,hn1,hb3⟩:=hcut;clear p0 p1 p2 hbx2 HVL HV;obtain ⟨V1,V2⟩:=VV;dsimp only at hs1 HQ ⊢;cases up
    ·have HQ2:V1=QQ:=by rw [HQ.out];rfl
     have hs2:=hs1;rw [HQ2] at hs2;have hb4:=hb3;clear HQ hs1 hb3 HQ2;have hn2:n1<=252:=by omega
     have HBI:=zLX A1 n1 c1 (zAa QQ) wc hs2 (by omega);rw [zAH] at HBI;replace HBI:=Zh HBI;have hbq:zAT QQ<=8064:=Yq (zBH QQ (32*(zAa QQ).length) (by have h1:=zB0 (zAa QQ) hs2.lt;rw [zAH] at h1;rw [Nat.pow_mul];exact h1)) (by have:=hs2.len;omega);have hU1:-16384<=UU:=by have:=HU.out;omega
     have hU2:UU<=32768:=by have:=HU.out;have:=hs.e2;have:=hs.p1;have:=hs.e1;omega
     have hp1:=hs.p1;have hp2:=hs.p2;have hw5:IntKind.i64.wrap ((zAT QQ:Int)+UU)=(zAT QQ:Int)+UU:=IntWalk.i64_in _ (by omega);have HS2:=Zh hs2;have HHS:=Zh hs;clear hs2 hs;by_cases hov:16384<(zAT QQ:Int)+UU
     ·rw [if_pos hov] at HP
      obtain ⟨pp,hpp⟩:∃pp:Nat,p=(pp:Int):=⟨p.toNat,by omega⟩;have HP3:Hid (PP=znb false (zAa (2^pp - 1)) (16384 - p)):=by unfold Hid;rw [HP.out,hpp];rfl
      subst hpp;have hc:=zAE wc (.cells #[.int .u32 1] 109);have hbc:=zAA hb4 hc;have h31:val [1]=1:=by decide
      have hbp:zAT (2^pp)<=8000:=zqV (by omega);have HSH:=znJ (some ⟨wc.heap.size,0,none⟩) 1 1 pp [1] _ (zoX (Blk.new wc 109 #[.int .u32 1])) (by omega) (by omega) (by rw [h31,Nat.one_mul];exact Yq (zPI hbp) (by omega));rw [h31,Nat.one_mul] at HSH;replace HSH:=Zh HSH;have hd5:=zPI hbp;clear hc;have hw6:IntKind.i64.wrap (16384 - (pp:Int))=16384 - (pp:Int):=IntWalk.i64_in _ (by omega)
      go_wp2_with (go_at_call 242;refine HBI.out.mono ?_;rintro e' w' ⟨rfl,rfl⟩)
      refine HSH.out.mono ?_;rintro e' w6 ⟨A6,n6,c6,rfl,hs6,-,hb6⟩
      have hbc6:=zAA hbc hb6;have hc:=zAE w6 (.cells #[.int .u32 1] 109);have hbc7:=zAA hbc6 hc;have hn6:=hs6.len;have HSB:=zJO A6 (some ⟨w6.heap.size,0,none⟩) n6 c6 1 1 _ [1] _ (hs6.below hc) (zoX (Blk.new w6 109 #[.int .u32 1])) (by omega) (by omega) (by rw [zAH,h31];exact Nat.one_le_two_pow);rw [zAH,h31] at HSB;replace HSB:=Zh HSB;clear hc hs6 hb6 hbc6 hn6 hd5 hbp hbc h31;go_wp2_with fail
      refine HSB.out.mono ?_;rintro e' w7 ⟨A7,n7,c7,rfl,hs7,-,hb7⟩
      have hb8:=zAA hbc7 hb7;have HS7:=Zh hs7;clear hbc7 hb7 hs7 HP;have HP:=HP3;go_wp2_with fail
      refine (znS false A7 n7 c7 _ (16384 - (pp:Int)) w7 HS7.out (HT0.out _ hb8)).mono ?_;rintro e' w5 ⟨A5,n5,c5,rfl,hs5,hf5,hb5⟩
      have hb6:=zAA hb8 hb5;have hkr:=HKR.out.next hb6;obtain ⟨r0,r1,r2⟩:=hkr.cells3;have f0:=hkr.frozen 0;have f1:=hkr.frozen 1;have f2:=hkr.frozen 2;have HKR5:=Zh hkr;have HS5:=Zh hs5;have HB6:=Zh hb6;have hs5z:=hb6.size;have hfz:=hb8.size;clear hkr hs5 hb6 hb5;go_wp2_with fail
      refine Yn (zBI Tryz.results325 rfl (HKR5.out.set3 _ _ _)) rfl ?_;rw [HP.out];have hlt:w.heap.size+1<w7.heap.size:=Yh HKR.out.lt hfz;exact ⟨A5,n5,c5,rfl,((HS5.out.far hf5 hlt 0 _).far hf5 hlt 1 _).far hf5 hlt 2 _,hf5.mono (by omega),zAG (zAA HB0.out HB6.out) (by omega) _ _ _⟩
     ·rw [if_neg hov] at HP
      go_wp2_with (go_at_call 242;refine HBI.out.mono ?_;rintro e' w' ⟨rfl,rfl⟩)
      refine (znS false A1 n1 c1 _ UU wc HS2.out (HT0.out _ hb4)).mono ?_;rintro e' w5 ⟨A5,n5,c5,rfl,hs5,hf5,hb5⟩
      have hb6:=zAA hb4 hb5;have hkr:=HKR.out.next hb6;obtain ⟨r0,r1,r2⟩:=hkr.cells3;have f0:=hkr.frozen 0;have f1:=hkr.frozen 1;have f2:=hkr.frozen 2;have HKR5:=Zh hkr;have HS5:=Zh hs5;have HB6:=Zh hb6;have hs5z:=hb6.size;have hfz:=hb4.size;clear hkr hs5 hb6 hb5;go_wp2_with fail
      refine Yn (zBI Tryz.results325 rfl (HKR5.out.set3 _ _ _)) rfl ?_;rw [HP.out];have hlt:w.heap.size+1<wc.heap.size:=Yh HKR.out.lt hfz;exact ⟨A5,n5,c5,rfl,((HS5.out.far hf5 hlt 0 _).far hf5 hlt 1 _).far hf5 hlt 2 _,hf5.mono (by omega),zAG (zAA HB0.out HB6.out) (by omega) _ _ _⟩
    cases V2
    ·have HQ2:V1=QQ:=by rw [HQ.out];rfl
     have hs2:=hs1;rw [HQ2] at hs2;have hb4:=hb3;clear HQ hs1 hb3 HQ2;have hn2:n1<=252:=by omega
     have HBI:=zLX A1 n1 c1 (zAa QQ) wc hs2 (by omega);rw [zAH] at HBI;replace HBI:=Zh HBI;have hbq:zAT QQ<=8064:=Yq (zBH QQ (32*(zAa QQ).length) (by have h1:=zB0 (zAa QQ) hs2.lt;rw [zAH] at h1;rw [Nat.pow_mul];exact h1)) (by have:=hs2.len;omega);have hU1:-16384<=UU:=by have:=HU.out;omega
     have hU2:UU<=32768:=by have:=HU.out;have:=hs.e2;have:=hs.p1;have:=hs.e1;omega
     have hp1:=hs.p1;have hp2:=hs.p2;have hw5:IntKind.i64.wrap ((zAT QQ:Int)+UU)=(zAT QQ:Int)+UU:=IntWalk.i64_in _ (by omega);have HS2:=Zh hs2;have HHS:=Zh hs;clear hs2 hs;by_cases hov:16384<(zAT QQ:Int)+UU
     ·rw [if_pos hov] at HP
      have hkr:=HKR.out.next hb4;obtain ⟨r0,r1,r2⟩:=hkr.cells3;have f0:=hkr.frozen 0;have f1:=hkr.frozen 1;have f2:=hkr.frozen 2;have HKR5:=Zh hkr;clear hkr;have HP2:PP=(zAZ,9):=by rw [HP.out];rfl
      go_wp2_with (go_at_call 242;refine HBI.out.mono ?_;rintro e' w' ⟨rfl,rfl⟩)
      refine Yn (zBI Tryz.results325 rfl (HKR5.out.set3 _ _ _)) rfl ?_;rw [HP2];exact ⟨none,0,0,rfl,SL.nil _,zAn.zero,zAG (zAA HB0.out hb4) (by omega) _ _ _⟩
     ·rw [if_neg hov] at HP
      go_wp2_with (go_at_call 242;refine HBI.out.mono ?_;rintro e' w' ⟨rfl,rfl⟩)
      refine (znS false A1 n1 c1 _ UU wc HS2.out (HT0.out _ hb4)).mono ?_;rintro e' w5 ⟨A5,n5,c5,rfl,hs5,hf5,hb5⟩
      have hb6:=zAA hb4 hb5;have hkr:=HKR.out.next hb6;obtain ⟨r0,r1,r2⟩:=hkr.cells3;have f0:=hkr.frozen 0;have f1:=hkr.frozen 1;have f2:=hkr.frozen 2;have HKR5:=Zh hkr;have HS5:=Zh hs5;have HB6:=Zh hb6;have hs5z:=hb6.size;have hfz:=hb4.size;clear hkr hs5 hb6 hb5;go_wp2_with fail
      refine Yn (zBI Tryz.results325 rfl (HKR5.out.set3 _ _ _)) rfl ?_;rw [HP.out];have hlt:w.heap.size+1<wc.heap.size:=Yh HKR.out.lt hfz;exact ⟨A5,n5,c5,rfl,((HS5.out.far hf5 hlt 0 _).far hf5 hlt 1 _).far hf5 hlt 2 _,hf5.mono (by omega),zAG (zAA HB0.out HB6.out) (by omega) _ _ _⟩
    ·have hc:=zAE wc (.cells #[.int .u32 1] 109)
     have HQ3:QQ=V1+1:=by rw [HQ.out];rfl
     have hl1:=hs1.len;have h31:val [1]=1:=by decide
     have hsz:(zAa (val (zAa V1)+val [1])).length<=252:=by
      refine zBQ _ _ ?_;have h1:=zB0 (zAa V1) hs1.lt;have h2:(4294967296:Nat)^(zAa V1).length<=4294967296^251:=Xh (by omega) (by omega);rw [h31,Xj];omega
     have HA:=Zh (zNT A1 (some ⟨wc.heap.size,0,none⟩) n1 c1 1 1 (zAa V1) [1] _ (hs1.below hc) (zoX (Blk.new wc 109 #[.int .u32 1])) (by omega) (by omega) (Yq hsz (by omega)));rw [zAH,h31,<- HQ3] at HA hsz;have HSZ:=Zh hsz;have hbc:=zAA hb3 hc;clear hsz hs1 HQ hc hb3 HQ3 h31 hl1;go_wp2_with fail
     refine HA.out.mono ?_;rintro e' w1 ⟨A2,n2,c2,rfl,hs2,-,hb1⟩
     have hb4:=zAA hbc hb1;have hn2:n2<=252:=by rw [<- hs2.len];exact HSZ.out
     clear HA HSZ hbc hb1;have HBI:=zLX A2 n2 c2 (zAa QQ) w1 hs2 (by omega);rw [zAH] at HBI;replace HBI:=Zh HBI;have hbq:zAT QQ<=8064:=Yq (zBH QQ (32*(zAa QQ).length) (by have h1:=zB0 (zAa QQ) hs2.lt;rw [zAH] at h1;rw [Nat.pow_mul];exact h1)) (by have:=hs2.len;omega);have hU1:-16384<=UU:=by have:=HU.out;omega
     have hU2:UU<=32768:=by have:=HU.out;have:=hs.e2;have:=hs.p1;have:=hs.e1;omega
     have hp1:=hs.p1;have hp2:=hs.p2;have hw5:IntKind.i64.wrap ((zAT QQ:Int)+UU)=(zAT QQ:Int)+UU:=IntWalk.i64_in _ (by omega);have HS2:=Zh hs2;have HHS:=Zh hs;clear hs2 hs;by_cases hov:16384<(zAT QQ:Int)+UU
     ·rw [if_pos hov] at HP
      have hkr:=HKR.out.next hb4;obtain ⟨r0,r1,r2⟩:=hkr.cells3;have f0:=hkr.frozen 0;have f1:=hkr.frozen 1;have f2:=hkr.frozen 2;have HKR5:=Zh hkr;clear hkr;have HP2:PP=(zAZ,9):=by rw [HP.out];rfl
      go_wp2_with (go_at_call 242;refine HBI.out.mono ?_;rintro e' w' ⟨rfl,rfl⟩)
      refine Yn (zBI Tryz.results325 rfl (HKR5.out.set3 _ _ _)) rfl ?_;rw [HP2];exact ⟨none,0,0,rfl,SL.nil _,zAn.zero,zAG (zAA HB0.out hb4) (by omega) _ _ _⟩
     ·rw [if_neg hov] at HP
      go_wp2_with (go_at_call 242;refine HBI.out.mono ?_;rintro e' w' ⟨rfl,rfl⟩)
      refine (znS false A2 n2 c2 _ UU w1 HS2.out (HT0.out _ hb4)).mono ?_;rintro e' w5 ⟨A5,n5,c5,rfl,hs5,hf5,hb5⟩
      have hb6:=zAA hb4 hb5;have hkr:=HKR.out.next hb6;obtain ⟨r0,r1,r2⟩:=hkr.cells3;have f0:=hkr.frozen 0;have f1:=hkr.frozen 1;have f2:=hkr.frozen 2;have HKR5:=Zh hkr;have HS5:=Zh hs5;have HB6:=Zh hb6;have hs5z:=hb6.size;have hfz:=hb4.size;clear hkr hs5 hb6 hb5;go_wp2_with fail
      refine Yn (zBI Tryz.results325 rfl (HKR5.out.set3 _ _ _)) rfl ?_;rw [HP.out];have hlt:w.heap.size+1<w1.heap.size:=Yh HKR.out.lt hfz;exact ⟨A5,n5,c5,rfl,((HS5.out.far hf5 hlt 0 _).far hf5 hlt 1 _).far hf5 hlt 2 _,hf5.mono (by omega),zAG (zAA HB0.out HB6.out) (by omega) _ _ _⟩
def znB (p:Int):Bool:=decide (8<=p) && decide (p<=512)
theorem zn0 (p:Int) (w:World):Calls Tryz.prog 321 #[.int .i64 p] w fun e w'=>e=.returned (.bool (znB p))/\w' = w:=by
 by_cases h1:8<=p
 ·by_cases h2:p<=512
  ·have HV:Hid (znB p=true):=by unfold Hid znB;rw [Yf h1,Yf h2];rfl
   go_enter Tryz.func321,Tryz.ntmps321
   go_wp2_with fail
   go_ret;exact ⟨by rw [HV.out];rfl,rfl⟩
  ·have HV:Hid (znB p=false):=by unfold Hid znB;rw [Yf h1,Ye h2];rfl
   go_enter Tryz.func321,Tryz.ntmps321
   go_wp2_with fail
   go_ret;exact ⟨by rw [HV.out];rfl,rfl⟩
 ·have HV:Hid (znB p=false):=by unfold Hid znB;rw [Ye h1];rfl
  go_enter Tryz.func321,Tryz.ntmps321
  go_wp2_with fail
  go_ret;exact ⟨by rw [HV.out];rfl,rfl⟩
def znQ (p:Int) (ds:List Dy):Int:=if ds.all vld=true then (if znB p=true then 0 else 2) else 1
theorem znN (p:Int) (A:Option Addr) (n c:Nat) (ds:List Dy) (w:World) (h:Sl 3 RD w A n c ds) (hn:n<=1000) (hd:∀d∈ds,Bd d) :
  Calls Tryz.prog 267 #[.int .i64 p,.slice A n c] w fun e w'=>e=.returned (.int .i64 (znQ p ds))/\Below w.heap.size w w':=by
 have HS:=Zh h;have HD:=Zh hd;have HL:=Zh h.len;have m1:=h.cap;have m2:=h.max;have HP:=Zh (fun W=>zn0 p W);clear h hd;go_enter Tryz.func267,Tryz.ntmps267
 go_wp2_with fail
 go_loopw [9] (fun i wr=>∃k:Nat,k<=n/\i=.int .i64 k/\Hid (Below w.heap.size w wr)/\Hid ((ds.take k).all vld=true)) (fun i _=>n - (intOf i).toNat)
 case atStart=>exact ⟨0,by omega,rfl,Yp _ _,by simp [Hid]⟩
 case round=>
  obtain ⟨k,hk,rfl,HB,HA⟩:=hrel;by_cases hlt:k<n
  ·obtain ⟨b,off,d,us,rfl,hbl,hdk,hu3,hR,hc⟩:=HS.out.get hlt
   have HBd:=Zh (HD.out d (Yk hdk));obtain ⟨dA,dn,dc,rfl,hs⟩:=hR;have q0:=(HB.out.cell (p:=⟨b,off+k*3,none⟩) hbl).trans (hc 0 _ rfl);have q1:=(HB.out.cell (p:=⟨b,off+k*3+1,none⟩) hbl).trans (hc 1 _ rfl);have q2:=(HB.out.cell (p:=⟨b,off+k*3+2,none⟩) hbl).trans (hc 2 _ rfl);have hb1:=zAE wr (.cells #[.bool d.neg,.slice dA dn dc,.int .i64 d.e] 41);have hbb:=HB.out.trans (hb1.mono HB.out.size);have HV:=Zh (zEl [.bool d.neg,.slice dA dn dc,.int .i64 d.e] d _ ⟨dA,dn,dc,rfl,hs.below hbb⟩ HBd.out);have HBB:=Zh hbb;have HT:Hid (ds.take (k+1)=ds.take k++[d]):=by unfold Hid;rw [List.take_add_one,hdk];rfl
   have HM:=Zh (Yk hdk);clear hc hu3 hdk hs hb1 hbb;go_wp2_with fail
   clear q0 q1 q2;generalize wr.alloc (.cells #[.bool d.neg,.slice dA dn dc,.int .i64 d.e] 41)=W1 at *;obtain ⟨v,hv⟩:∃v,vld d=v:=⟨_,rfl⟩;rw [hv] at HV;refine HV.out.mono ?_;rintro e w1 ⟨rfl,hb1⟩
   have hb2:=HBB.out.trans (hb1.mono HBB.out.size);have HV2:=Zh hv;clear hv hb1;cases v
   ·have HF:Hid (znQ p ds=1):=by
     unfold Hid znQ;rw [if_neg];intro hall;have:=List.all_eq_true.1 hall d HM.out;rw [HV2.out] at this;cases this
    go_wp2_with fail
    go_ret;exact ⟨by rw [HF.out];rfl,hb2⟩
   ·go_wp2_with fail
    go_roundw
    case rel=>exact ⟨k+1,by omega,by go_num,hb2,by unfold Hid;rw [HT.out,List.all_append,HA.out];simp [HV2.out]⟩
    case measure=>simp [intOf];omega
  ·obtain rfl:n=k:=by omega
   have hall:ds.all vld=true:=by
    have:=HA.out;rw [Xe (by rw [HL.out];exact Ya _)] at this;exact this
   have HF:Hid (znQ p ds=if znB p=true then 0 else 2):=by unfold Hid znQ;rw [if_pos hall]
   clear hall;go_wp2_with fail
   refine (HP.out wr).mono ?_;rintro e w1 ⟨rfl,rfl⟩
   generalize znB p=q at *;cases q
   all_goals
    go_wp2_with fail
    go_ret;exact ⟨by rw [HF.out];rfl,HB.out⟩
theorem zoM (M:Nat) (e p:Int) (more up:Bool) (h:zpE M e p):(zn8 M e p more up).1.l.length<=256:=by
 have key:∀ (V:Nat) (u:Int),(znb false (zAa V) u).1.l.length<=256:=by
  intro V u;unfold znb
  split
  ·simp [zAZ]
  ·rename_i hv
   have h1:(zAa V).length<=256:=by omega
   rw [zAH];unfold zAu
   split
   ·show (zAN false V u).l.length<=256
    unfold zAN
    split
    ·simp [zAZ]
    ·exact zCR (zAk V) h1 (by rw [zAH];exact Nat.div_le_self _ _)
   ·simp [zAZ]
 unfold zn8
 split
 ·split
  ·simp [zAZ]
  ·exact key _ _
 ·exact key _ _
def zn1 (neg:Bool) (M:Nat) (e p:Int) (more up:Bool):Dy×Int:=
 if ((zn8 M e p more (up != neg)).2 == 0 && neg)=true then (zEL (zn8 M e p more (up != neg)).1,(zn8 M e p more (up != neg)).2) else zn8 M e p more (up != neg)
def zol (o:Dy×Int) (w:World) (e:Ending) (w':World):Prop:=∃A n c,e=.returned (.tuple #[.agg #[.bool o.1.neg,.slice A n c,.int .i64 o.1.e],.int .i64 o.2])/\(SL w' A n c o.1.l/\zAn w.heap.size A n)/\Below w.heap.size w w'
theorem znH (neg:Bool) (A:Option Addr) (n c:Nat) (l:List Nat) (e p:Int) (more up:Bool) (w:World) (h:SL w A n c l) (hn:n<=256) (hs:zpE (val l) e p) (ht:zBx w) :
  Calls Tryz.prog 270 #[.bool neg,.agg #[.slice A n c,.int .i64 e,.bool more],.int .i64 p,.bool up] w (zol (zn1 neg (val l) e p more up) w):=by
 have HC:=Zh (fun W (hb:Below w.heap.size w W)=>zpi A n c l e p more (up != neg) W (h.below hb) hn hs (ht.next hb));have HV:Hid (zn1 neg (val l) e p more up=if ((zn8 (val l) e p more (up != neg)).2 == 0 && neg)=true then (zEL (zn8 (val l) e p more (up != neg)).1,(zn8 (val l) e p more (up != neg)).2) else zn8 (val l) e p more (up != neg)):=rfl;have HL:=Zh (zoM (val l) e p more (up != neg) hs);generalize zn1 neg (val l) e p more up=PP at *;generalize zn8 (val l) e p more (up != neg)=QQ at *;obtain ⟨⟨dn,dl,de⟩,k⟩:=QQ;dsimp only at HC HV HL;have hW1:=zAE w (.cells #[.slice A n c,.int .i64 e,.bool more] 290);have hW2:=zAE (w.alloc (.cells #[.slice A n c,.int .i64 e,.bool more] 290)) (.cells #[.bool false,.slice none 0 0,.int .i64 0] 41);have hb0:=zAA hW1 hW2;have kx:=(Blk.new w 290 #[.slice A n c,.int .i64 e,.bool more]).next hW2;have kr:Blk ((w.alloc (.cells #[.slice A n c,.int .i64 e,.bool more] 290)).alloc (.cells #[.bool false,.slice none 0 0,.int .i64 0] 41)) (w.heap.size+1) 41 #[.bool false,.slice none 0 0,.int .i64 0]:=Blk.newAt _ _ _ (by simp);obtain ⟨p0,p1,p2⟩:=kx.cells3;clear hW1 hW2 h hs ht;go_enter Tryz.func270,Tryz.ntmps270
 go_wp2_with fail
 clear p0 p1 p2 kx;generalize (w.alloc (.cells #[.slice A n c,.int .i64 e,.bool more] 290)).alloc (.cells #[.bool false,.slice none 0 0,.int .i64 0] 41)=W0 at *;refine (HC.out _ hb0).mono ?_;rintro e' w1 ⟨A1,n1,c1,rfl,hs1,hf1,hb1⟩
 have kr1:=kr.next hb1;have hd:=zAE w1 (.cells #[.bool dn,.slice A1 n1 c1,.int .i64 de] 41);have kr2:=kr1.next hd;obtain ⟨r0,r1,r2⟩:=kr2.cells3;have f0:=kr2.frozen 0;have f1:=kr2.frozen 1;have f2:=kr2.frozen 2;have hs2:=hs1.below hd;have hb2:=zAA (zAA hb0 hb1) hd;have HS2:=Zh hs2;have hlt:w.heap.size+1<W0.heap.size:=kr.lt;have hn1:n1<=256:=by have:=hs1.len;have:=HL.out;dsimp only at *;omega
 have hz2:w.heap.size+2<=w1.heap.size:=by have:=hb1.size;omega
 clear HC kr kr1 hd hs1 hb1 hs2 HL;have HF:=Zh hf1;have HB2:=Zh hb2;have HKR:=Zh kr2;clear hf1 hb2 kr2;have plain:PP=(⟨dn,dl,de⟩,k)->zol PP w (.returned (.tuple #[.agg #[.bool dn,.slice A1 n1 c1,.int .i64 de],.int .i64 k])) (((((w1.alloc (.cells #[.bool dn,.slice A1 n1 c1,.int .i64 de] 41)).setCell ⟨w.heap.size+1,0,none⟩ (.bool dn)).setCell ⟨w.heap.size+1,1,none⟩ (.slice A1 n1 c1)).setCell ⟨w.heap.size+1,2,none⟩ (.int .i64 de))):=by
  rintro rfl
  exact ⟨A1,n1,c1,rfl,⟨((HS2.out.far HF.out hlt 0 _).far HF.out hlt 1 _).far HF.out hlt 2 _,HF.out.mono (by omega)⟩,zAG HB2.out (by omega) _ _ _⟩
 have PLAIN:=Zh plain;clear plain;by_cases hk:k=0
 ·subst hk
  cases neg
  ·go_wp2_with fail
   refine Yn (zBI Tryz.results270 rfl (HKR.out.set3 _ _ _)) rfl ?_;exact PLAIN.out (by rw [HV.out];rfl)
  ·have HK1:=Zh (Blk.new w1 41 #[.bool dn,.slice A1 n1 c1,.int .i64 de])
   go_wp2_with fail
   refine (zL2 dn A1 n1 c1 dl de _ HS2.out (by omega)).mono ?_;rintro e' w3 ⟨A3,n3,c3,rfl,hs3,hf3,hb3⟩
   have HS3:=Zh hs3;have kd:=HK1.out.next hb3;have kr3:=HKR.out.next hb3;obtain ⟨d0,d1,d2⟩:=kd.cells3;have g0:=kd.frozen 0;have g1:=kd.frozen 1;have g2:=kd.frozen 2;clear r0 r1 r2 f0 f1 f2;obtain ⟨r0,r1,r2⟩:=kr3.cells3;have f0:=kr3.frozen 0;have f1:=kr3.frozen 1;have f2:=kr3.frozen 2;have hz3:w1.heap.size+1<=w3.heap.size:=by have:=hb3.size;simpa using this
   have hgd:w1.heap.size<(w1.alloc (.cells #[.bool dn,.slice A1 n1 c1,.int .i64 de] 41)).heap.size:=by simp
   have HF3:=Zh hf3;have HB5:=Zh (zAG (zAA HB2.out hb3) (show w.heap.size<=w1.heap.size by omega) (.bool (zEL ⟨dn,dl,de⟩).neg) (.slice A3 n3 c3) (.int .i64 (zEL ⟨dn,dl,de⟩).e));have HS5:=Zh (((hs3.far hf3 hgd 0 (.bool (zEL ⟨dn,dl,de⟩).neg)).far hf3 hgd 1 (.slice A3 n3 c3)).far hf3 hgd 2 (.int .i64 (zEL ⟨dn,dl,de⟩).e));have HKD:=Zh (kd.set3 (.bool (zEL ⟨dn,dl,de⟩).neg) (.slice A3 n3 c3) (.int .i64 (zEL ⟨dn,dl,de⟩).e));have HKR3:=Zh (((kr3.far (p:=⟨w1.heap.size,0,none⟩) (show w.heap.size+1≠w1.heap.size by have:=hb0.size;have:=HB2.out.size;omega) (.bool (zEL ⟨dn,dl,de⟩).neg)).far (p:=⟨w1.heap.size,1,none⟩) (show w.heap.size+1≠w1.heap.size by omega) (.slice A3 n3 c3)).far (p:=⟨w1.heap.size,2,none⟩) (show w.heap.size+1≠w1.heap.size by omega) (.int .i64 (zEL ⟨dn,dl,de⟩).e));have HV2:Hid (PP=(zEL ⟨dn,dl,de⟩,0)):=by unfold Hid;rw [HV.out];rfl
   have hlt3:w.heap.size+1<(w1.alloc (.cells #[.bool dn,.slice A1 n1 c1,.int .i64 de] 41)).heap.size:=by simp;omega
   generalize zEL ⟨dn,dl,de⟩=nd at *;clear hs3 kd kr3 hf3 hb3 HV PLAIN;go_upto_region 4 with fail
   clear d0 d1 d2 g0 g1 g2 r0 r1 r2 f0 f1 f2;generalize ((w3.setCell ⟨w1.heap.size,0,none⟩ (.bool nd.neg)).setCell ⟨w1.heap.size,1,none⟩ (.slice A3 n3 c3)).setCell ⟨w1.heap.size,2,none⟩ (.int .i64 nd.e)=W5 at *;obtain ⟨d0,d1,d2⟩:=Blk.cells3 HKD.out;obtain ⟨r0,r1,r2⟩:=HKR3.out.cells3;have f0:=HKR3.out.frozen 0;have f1:=HKR3.out.frozen 1;have f2:=HKR3.out.frozen 2;go_wp2_with fail
   refine Yn (zBI Tryz.results270 rfl (HKR3.out.set3 _ _ _)) rfl ?_;rw [HV2.out];exact ⟨A3,n3,c3,rfl,⟨((HS5.out.far HF3.out hlt3 0 _).far HF3.out hlt3 1 _).far HF3.out hlt3 2 _,HF3.out.mono (by omega)⟩,zAG HB5.out (by omega) _ _ _⟩
 ·have hk2:(k == 0)=false:=by simpa using hk
  go_wp2_with fail
  refine Yn (zBI Tryz.results270 rfl (HKR.out.set3 _ _ _)) rfl ?_;exact PLAIN.out (by rw [HV.out,hk2];rfl)
def zoI (d:Dy) (p:Int) (up:Bool):Dy×Int:=if znQ p [d]=0 then zn1 d.neg (val d.l) d.e p false up else (zAZ,znQ p [d])
def znK (a b:Dy) (p:Int):Int:=if zCU a - zCU b<=2 then min (min a.e (zCU a - p - 8)) b.e else min a.e (zCU a - p - 8)
def zom (a b:Dy) (p:Int):Nat:=val a.l*2^(a.e - znK a b p).toNat
def zn4 (a b:Dy) (p:Int):Nat×Bool:=if znK a b p<=b.e then (val b.l*2^(b.e - znK a b p).toNat,false) else (znq (val b.l) (znK a b p - b.e).toNat,zpD (val b.l) (znK a b p - b.e).toNat)
def zpH (a b:Dy) (p:Int):Nat:=if (zn4 a b p).2=true then (zn4 a b p).1+1 else (zn4 a b p).1
structure ExN where
 m:Nat
 e:Int
 more:Bool
def znZ (a b:Dy) (p:Int):ExN×Bool:=
 if a.neg=b.neg then (⟨zom a b p+(zn4 a b p).1,znK a b p,(zn4 a b p).2⟩,false)
 else if zom a b p<zpH a b p then (⟨zpH a b p - zom a b p,znK a b p,false⟩,true) else (⟨zom a b p - zpH a b p,znK a b p,(zn4 a b p).2⟩,false)
def addT (a b:Dy) (p:Int) (up:Bool):Dy×Int:=
 if (znZ a b p).1.m=0/\(znZ a b p).1.more=false then (zAZ,0) else zn1 (a.neg != (znZ a b p).2) (znZ a b p).1.m (znZ a b p).1.e p (znZ a b p).1.more up
def zn2 (a b:Dy) (p:Int) (up:Bool):Dy×Int:=
 if znQ p [a,b]=0 then (if a.l=[] then zoI b p up else if b.l=[] then zoI a p up else if zCU a<zCU b then addT b a p up else addT a b p up) else (zAZ,znQ p [a,b])
def znO (a b:Dy) (p:Int) (up:Bool):Dy×Int:=
 if znQ p [a,b]=0 then (if a.l=[]\/b.l=[] then (zAZ,0) else zn1 (a.neg != b.neg) (val a.l*val b.l) (a.e+b.e) p false up) else (zAZ,znQ p [a,b])
theorem znC {p:Int}{ds:List Dy}(h:znQ p ds=0):(∀d∈ds,vld d=true)/\8<=p/\p<=512:=by
 unfold znQ at h
 split at h
 ·rename_i h1
  split at h
  ·rename_i h2
   unfold znB at h2;simp only [Yi,Xb] at h2;exact ⟨fun d hd=>List.all_eq_true.1 h1 d hd,h2.1,h2.2⟩
  ·omega
 ·omega
structure Vb (d:Dy):Prop where
 m:zAT (val d.l)<=4096
 e1:-16384<=d.e
 e2:d.e<=16384
 t:(zAT (val d.l):Int)+d.e<=16384
theorem znX {d:Dy}(h:vld d=true):Vb d:=by
 unfold vld at h;rcases of_decide_eq_true h with ⟨h1,_,h3⟩ | h2
 ·have h0:zAT (val d.l)=0:=by rw [h1];rfl
  exact ⟨by omega,by omega,by omega,by omega⟩
 ·exact ⟨h2.2.2.2.2.1,h2.2.2.2.2.2.1,h2.2.2.2.2.2.2.1,h2.2.2.2.2.2.2.2⟩
theorem zoO {d:Dy}{p:Int}(h:vld d=true) (h1:8<=p) (h2:p<=512):zpE (val d.l) d.e p:=by
 have v:=znX h;exact ⟨by have:=v.m;omega,by have:=v.e1;omega,by have:=v.t;omega,h1,h2⟩
theorem zn6 (x y:Nat):zAT (x*y)<=zAT x+zAT y:=by
 refine zBH _ _ ?_;rw [Nat.pow_add];rcases Xn y with h0 | h0
 ·subst h0;rw [Nat.mul_zero];exact Nat.mul_pos (Nat.two_pow_pos _) (Nat.two_pow_pos _)
 ·exact Yh (Nat.mul_lt_mul_of_pos_right (zBu x) h0) (Nat.mul_le_mul_left _ (Nat.le_of_lt (zBu y)))
theorem zoN {a b:Dy}{p:Int}(h:vld a=true) (h':vld b=true) (h1:8<=p) (h2:p<=512):zpE (val a.l*val b.l) (a.e+b.e) p:=by
 have v:=znX h;have u:=znX h';have hm:=zn6 (val a.l) (val b.l);exact ⟨by have:=v.m;have:=u.m;omega,by have:=v.e1;have:=u.e1;omega,by have:=v.t;have:=u.t;omega,h1,h2⟩
theorem znk {d:Dy}(h:vld d=true) (hl:d.l≠[]):zCU d=(zAT (val d.l):Int)+d.e:=by unfold zCU;rw [if_pos ⟨h,hl⟩]
theorem znW (M k:Nat):zAT (M*2^k)<=zAT M+k:=by
 rcases Xn M with h0 | h0
 ·subst h0;rw [Nat.zero_mul];exact Nat.zero_le _
 ·exact Ys (zAc _ _ h0)
structure zpx (a b:Dy) (p:Int):Prop where
 l1:-17000<=znK a b p
 l2:znK a b p<=a.e
 x:zAT (zom a b p)<=4100
 y:zAT (zn4 a b p).1<=4100
theorem zoJ {a b:Dy}{p:Int}(h:vld a=true) (h':vld b=true) (hl:a.l≠[]) (hl':b.l≠[]) (ht:zCU b<=zCU a) (h1:8<=p) (h2:p<=512):zpx a b p:=by
 have v:=znX h;have u:=znX h';have vm:=v.m;have ve:=v.e1;have ve2:=v.e2;have um:=u.m;have ue:=u.e1;rw [znk h hl,znk h' hl'] at ht;have hL:znK a b p=if ((zAT (val a.l):Int)+a.e) - ((zAT (val b.l):Int)+b.e)<=2 then min (min a.e ((zAT (val a.l):Int)+a.e - p - 8)) b.e else min a.e ((zAT (val a.l):Int)+a.e - p - 8):=by unfold znK;rw [znk h hl,znk h' hl']
 have hx:=znW (val a.l) (a.e - znK a b p).toNat;have hb1:-17000<=znK a b p:=by rw [hL];split <;> omega
 have hb2:znK a b p<=a.e:=by rw [hL];split <;> omega
 have hb3:(zAT (val a.l):Int)+(a.e - znK a b p)<=4100:=by rw [hL];split <;> omega
 refine ⟨hb1,hb2,?_,?_⟩
 ·unfold zom;omega
 ·unfold zn4
  split
  ·have hy:=znW (val b.l) (b.e - znK a b p).toNat
   show zAT (val b.l*2^(b.e - znK a b p).toNat)<=4100
   omega
  ·show zAT (val b.l / 2 ^ _)<=4100
   exact Yq (zBH _ _ (Nat.lt_of_le_of_lt (Nat.div_le_self _ _) (zBu _))) (by omega)
theorem znV {x y b:Nat}(hx:zAT x<=b) (hy:zAT y<=b):zAT (x+y)<=b+1:=by
 refine zBH _ _ ?_;have h1:=Yh (zBu x) (Xh (by omega) hx);have h2:=Yh (zBu y) (Xh (by omega) hy);rw [Xj];omega
theorem znt {x y:Nat}(h:x<=y):zAT x<=zAT y:=zBH _ _ (Nat.lt_of_le_of_lt h (zBu y))
theorem zor:zAT 1<=4100:=Yq (zBH 1 1 (by omega)) (by omega)
theorem zpx.z {a b:Dy}{p:Int}(h:zpx a b p):zAT (zpH a b p)<=4101:=by
 unfold zpH
 split
 ·exact znV h.y zor
 ·exact Yq h.y (by omega)
theorem zpx.cuts {a b:Dy}{p:Int}(h:zpx a b p) (h0:a.e<=16384) (h1:8<=p) (h2:p<=512):zpE (znZ a b p).1.m (znZ a b p).1.e p:=by
 have l1:=h.l1;have l2:=h.l2;have hz:=h.z;have hx:=h.x;have e:(znZ a b p).1.e=znK a b p:=by
  unfold znZ
  split
  ·rfl
  ·split <;> rfl
 have m:zAT (znZ a b p).1.m<=4102:=by
  unfold znZ
  split
  ·exact Yq (znV h.x h.y) (by omega)
  ·split
   ·exact Yq (znt (Nat.sub_le _ _)) (by omega)
   ·exact Yq (znt (Nat.sub_le _ _)) (by omega)
 rw [e];exact ⟨by omega,by omega,by omega,h1,h2⟩
theorem zpl {d:Dy}(h:d.l.length<=256):(zEL d).l.length<=256:=by
 unfold zEL
 split
 ·exact h
 ·simp [zAZ]
theorem zno {neg:Bool}{M:Nat}{e p:Int}{more up:Bool}(h:zpE M e p):(zn1 neg M e p more up).1.l.length<=256:=by
 have:=zoM M e p more (up != neg) h;unfold zn1
 split
 ·exact zpl this
 ·exact this
theorem zoV (d:Dy) (p:Int) (up:Bool):(zoI d p up).1.l.length<=256:=by
 unfold zoI
 split
 ·rename_i h
  have h:=znC h;exact zno (zoO (h.1 d (by simp)) h.2.1 h.2.2)
 ·simp [zAZ]
theorem zoL {a b:Dy}{p:Int}{up:Bool}(h:vld a=true) (h':vld b=true) (hl:a.l≠[]) (hl':b.l≠[]) (ht:zCU b<=zCU a) (h1:8<=p) (h2:p<=512):(addT a b p up).1.l.length<=256:=by
 unfold addT
 split
 ·simp [zAZ]
 ·exact zno ((zoJ h h' hl hl' ht h1 h2).cuts (znX h).e2 h1 h2)
theorem zpJ (a b:Dy) (p:Int) (up:Bool):(zn2 a b p up).1.l.length<=256:=by
 unfold zn2
 split
 ·rename_i h
  have h:=znC h
  split
  ·exact zoV _ _ _
  ·rename_i h3
   split
   ·exact zoV _ _ _
   ·rename_i h4
    split
    ·rename_i h5
     exact zoL (h.1 b (by simp)) (h.1 a (by simp)) h4 h3 (by omega) h.2.1 h.2.2
    ·rename_i h5
     exact zoL (h.1 a (by simp)) (h.1 b (by simp)) h3 h4 (by omega) h.2.1 h.2.2
 ·simp [zAZ]
theorem zpT (a b:Dy) (p:Int) (up:Bool):(znO a b p up).1.l.length<=256:=by
 unfold znO
 split
 ·rename_i h
  have h:=znC h
  split
  ·simp [zAZ]
  ·exact zno (zoN (h.1 a (by simp)) (h.1 b (by simp)) h.2.1 h.2.2)
 ·simp [zAZ]
theorem zon (a b:Dy) (p:Int) (up:Bool):Bd (zn2 a b p up).1:=Yq (zpJ a b p up) (by omega)
theorem znn (a b:Dy) (p:Int) (up:Bool):Bd (znO a b p up).1:=Yq (zpT a b p up) (by omega)
structure zKf (e:TypeId) (k:Nat) (w:World) (base:Nat) (v:Value) (fs:List (List Value)):Prop where
 own:w.ownsRow base e k v fs.length fs.flatten
 len:∀f∈fs,f.length=k
section
variable {e:TypeId}{k:Nat}{w w':World}{base:Nat}{v:Value}{fs:List (List Value)}
theorem zKf.nil (e:TypeId) (k:Nat) (w:World) (base:Nat):zKf e k w base (.slice none 0 0) []:=⟨⟨by simp,.inl ⟨rfl,rfl⟩⟩,by simp⟩
theorem zKf.form (h:zKf e k w base v fs):∃A c,v=.slice A fs.length c/\fs.length<=c/\c<=9223372036854775807:=by
 rcases h.own.2 with ⟨rfl,h0⟩ | ⟨g,cap,cur,rfl,hbg,hg,h1,h2,_⟩
 ·exact ⟨none,0,by rw [h0],by omega,by omega⟩
 ·exact ⟨_,cap,rfl,h1,by simpa [maxLen] using h2⟩
theorem zEb {fs:List (List Value)}{k:Nat}(h:∀f∈fs,f.length=k):∀ (j i:Nat) (f:List Value) (u:Value),fs[j]? = some f->f[i]? = some u->fs.flatten[j*k+i]? = some u:=by
 induction fs with
 | nil=>intro j i f u hj;simp at hj
 | cons a fs ih=>
  intro j i f u hj hi;have ha:=h a (by simp);cases j with
  | zero=>
   simp at hj;subst hj;have:i<a.length:=(Yb.1 hi).1;rw [List.flatten_cons,Yw (by omega)]
   simpa using hi
  | succ j=>
   rw [List.flatten_cons,Yx (by rw [ha,Nat.succ_mul];omega),ha,show (j+1)*k+i - k=j*k+i by rw [Nat.succ_mul];omega];exact ih (fun f hf=>h f (by simp [hf])) j i f u (by simpa using hj) hi
theorem zKf.sl {α:Type}{R:World->List Value->α->Prop}{xs:List α}(h:zKf e k w base v fs) (hx:xs.length=fs.length) (hR:∀ (j:Nat) (f:List Value) (x:α),fs[j]? = some f->xs[j]? = some x->R w f x) :
  ∃A c,v=.slice A fs.length c/\Sl k R w A fs.length c xs:=by
 rcases h.own.2 with ⟨rfl,h0⟩ | ⟨g,cap,cur,rfl,hbg,hg,h1,h2,h3,h4⟩
 ·have hn:xs=[]:=List.eq_nil_of_length_eq_zero (by omega)
  subst hn;exact ⟨none,0,by rw [h0],by rw [h0];exact Sl.nil _⟩
 ·refine ⟨_,cap,rfl,hx,h1,by simpa [maxLen] using h2,fun _=>⟨g,0,rfl,(Yv.1 hg).1,fun j x hj=>?_⟩⟩
  have hjl:j<fs.length:=by have:=(Yb.1 hj).1;omega
  have hf:fs[j]? = some fs[j]:=Yo hjl;refine ⟨fs[j],h.len _ (List.getElem_mem hjl),hR j _ x hf hj,fun i u hu=>?_⟩;rw [Nat.zero_add,Blk.cell hg];have h5:=zEb h.len j i _ u hf hu;rw [<- h4] at h5;have hlt:j*k+i<fs.length*k:=by
   have:=(Yb.1 h5).1;simp only [Yr] at this;omega
  rw [Xg hlt] at h5
  simpa using h5
theorem zKf.lt (h:zKf e k w base v fs):∀g,v.ownBlock=some g->base<=g/\g<w.heap.size:=h.own.lt
end
def Ly (B:Nat) (w:World) (P:World->Prop):Prop:=∀W:World,w.heap.size<=W.heap.size->(∀b,B<=b->b<w.heap.size->W.heap[b]? = w.heap[b]?)->P W
theorem Ly.here {B:Nat}{w:World}{P:World->Prop}(h:Ly B w P):P w:=h w (Ya _) (fun _ _ _=>rfl)
theorem Ly.up {B B':Nat}{w w':World}{P:World->Prop}(h:Ly B w P) (hs:w.heap.size<=w'.heap.size) (hB:B' <= B) (hb:∀b,B<=b->b<w.heap.size->w'.heap[b]? = w.heap[b]?):Ly B' w' P:=fun W h1 h2=>
 h W (Yq hs h1) (fun b hb1 hb2=>(h2 b (Yq hB hb1) (Yh hb2 hs)).trans (hb b hb1 hb2))
theorem Ly.imp {B:Nat}{w:World}{P Q:World->Prop}(h:Ly B w P) (hi:∀W,P W->Q W):Ly B w Q:=fun W h1 h2=>hi W (h W h1 h2)
theorem Ly.and {B:Nat}{w:World}{P Q:World->Prop}(h:Ly B w P) (k:Ly B w Q):Ly B w (fun W=>P W/\Q W):=fun W h1 h2=>⟨h W h1 h2,k W h1 h2⟩
theorem SL.ly {B:Nat}{w:World}{A:Option Addr}{n c:Nat}{l:List Nat}(h:SL w A n c l) (hf:zAn B A n):Ly B w (fun W=>SL W A n c l):=fun W h1 h2=>
 ⟨h.len,h.cap,h.max,h.lt,fun hn=>by
  obtain ⟨b,off,rfl,hb,hc⟩:=h.at_ hn;obtain ⟨ad,e,hB⟩:=hf hn;injection e with e
  subst e;exact ⟨b,off,rfl,Yh hb h1,fun j x hx=>(World.cell?_of_block (w:=w) (a:=⟨b,off+j,none⟩) (h2 b hB hb)).trans (hc j x hx)⟩⟩
structure Acc {α:Type}(e:TypeId) (k:Nat) (R:World->List Value->α->Prop) (lo base:Nat) (w:World) (v:Value) (fs:List (List Value)) (xs:List α):Prop where
 le:lo<=base
 own:zKf e k w base v fs
 len:xs.length=fs.length
 each:∀ (j:Nat) (f:List Value) (x:α),fs[j]? = some f->xs[j]? = some x->∃B E,lo<=B/\E<=w.heap.size/\(∀o,v.ownBlock=some o->o<B\/E<=o)/\∀W:World,E<=W.heap.size->(∀b,B<=b->b<E->W.heap[b]? = w.heap[b]?)->R W f x
section
variable {α:Type}{e:TypeId}{k:Nat}{R:World->List Value->α->Prop}{lo base:Nat}{w w':World}{v:Value}{fs:List (List Value)}{xs:List α}
theorem Acc.nil (e:TypeId) (k:Nat) (R:World->List Value->α->Prop) {lo base:Nat}(hl:lo<=base) (w:World):Acc e k R lo base w (.slice none 0 0) [] []:=⟨hl,zKf.nil _ _ _ _,rfl,fun j f x h=>by simp at h⟩
theorem Acc.keep (h:Acc e k R lo base w v fs xs) (hs:w.heap.size<=w'.heap.size) (hb:∀b,lo<=b->b<w.heap.size->w'.heap[b]? = w.heap[b]?):Acc e k R lo base w' v fs xs:=by
 refine ⟨h.le,⟨⟨h.own.own.1,?_⟩,h.own.len⟩,h.len,fun j f x hf hx=>?_⟩
 ·rcases h.own.own.2 with hn | ⟨g,cap,cur,hv,hbg,hg,rest⟩
  ·exact .inl hn
  ·exact .inr ⟨g,cap,cur,hv,hbg,(hb g (Yq h.le hbg) (Yv.1 hg).1).trans hg,rest⟩
 ·obtain ⟨B,E,h1,h2,h3,h4⟩:=h.each j f x hf hx
  exact ⟨B,E,h1,Yq h2 hs,h3,fun W hW hbl=>h4 W hW (fun b hb1 hb2=>(hbl b hb1 hb2).trans (hb b (Yq h1 hb1) (Yh hb2 h2)))⟩
theorem Acc.ly (h:Acc e k R lo base w v fs xs):∃A c,v=.slice A xs.length c/\Ly lo w (fun W=>Sl k R W A xs.length c xs):=by
 obtain ⟨A,c,hv,_,_⟩:=h.own.form;rw [<- h.len] at hv;refine ⟨A,c,hv,fun W h1 h2=>?_⟩;have h':=h.keep h1 h2;obtain ⟨A',c',hv',hs⟩:=h'.own.sl (R:=R) (xs:=xs) h.len (fun j f x hf hx=>by
  obtain ⟨B,E,a1,a2,a3,a4⟩:=h'.each j f x hf hx;exact a4 W a2 (fun _ _ _=>rfl))
 rw [<- h.len] at hv' hs;rw [hv] at hv';injection hv' with e1 e2 e3
 subst e1 e3;exact hs
end
section
variable {P:Program}{α:Type}{R:World->List Value->α->Prop}
theorem zIK {w:World}{ops:Array Oper}{rest:List Oper}{o:Oper}{a:Act}{Q:Exit->Act->World->Prop}(hgd:o.guard=none) (s x:Operand) (t:TypeId)
  (ho:o.op=.call { callee:=.builtin .append,args:=#[s,x],argTypes:=#[t,t] })
  (e:TypeId) (k bytes:Nat) (z:Value) (hinfo:(P.info? e).map (fun i=>(i.zero,i.size,i.bytes))=some (some z,k,bytes)) (hz:z.cells.size=k) (hk:0<k) (hby:bytes<=1000) (ht:P.underlying t=some (.slice e))
  (lo base:Nat) (v:Value) (fs:List (List Value)) (xs:List α) (hs:a.eval s=v) (hacc:Acc e k R lo base w v fs xs)
  (ad:Addr) (c:Nat) (f:List Value) (y:α) (hx:a.eval x=.slice (some ad) 1 c) (hn:f.length=k) (hc:∀ (j:Nat) (u:Value),f[j]? = some u->w.cell? (ad.add j)=some u) (h1:∀u∈f,u.oneCell' = true)
  (hlen:fs.length<=1000000) (hbase:base<=w.heap.size)
  (B E:Nat) (hB:lo<=B) (hE:E<=w.heap.size) (hown:∀o,v.ownBlock=some o->o<B\/E<=o) (hR:∀W:World,E<=W.heap.size->(∀b,B<=b->b<E->W.heap[b]? = w.heap[b]?)->R W f y)
  (h:∀v' w',Acc e k R lo base w' v' (fs++[f]) (xs++[y])->Below base w w'->wpList P ops Q rest (a.put o.dst v') w'):wpList P ops Q (o::rest) a w:=by
 obtain ⟨i,hi,hz',hsize,hb'⟩:=info_parts hinfo;refine wpList_append_own_at _ hgd s x t ho base e i z k bytes ht hi hz' hsize hb' hz hk v fs.length fs.flatten hs hacc.own.own ad 1 c f hx (by omega) hc h1 (by simp only [maxLen];omega) ?_ hbase (fun v' w' h2 h3 _ h5=>?_)
 ·exact Yq (Nat.mul_le_mul (show fs.length+1<=1000001 by omega) hby) (by omega)
 ·refine h v' w' ⟨hacc.le,⟨?_,?_⟩,?_,?_⟩ ((Yp _ _).grown h3 hbase (fun k hk=>(hacc.own.lt k hk).1))
  ·rw [Yu,List.flatten_append];simpa using h2
  ·intro f' hf
   rcases Yt.1 hf with hf | hf
   ·exact hacc.own.len f' hf
   ·rw [List.mem_singleton.1 hf];exact hn
  ·rw [Yu,Yu,hacc.len];rfl
  ·have key:∀ (B E:Nat),E<=w.heap.size->(∀o,v.ownBlock=some o->o<B\/E<=o)->(∀o,v'.ownBlock=some o->o<B\/E<=o)/\∀b,B<=b->b<E->w'.heap[b]? = w.heap[b]?:=by
    intro B E hE ho;refine ⟨fun o ho'=>?_,fun b hb1 hb2=>h3.block b (Yh hb2 hE) (fun e=>?_)⟩
    ·rcases h5 with h5 | h5
     ·exact ho o (by rw [<- h5];exact ho')
     ·rw [h5] at ho';injection ho' with ho';right;omega
    ·rcases ho b e.symm with hlt | hge <;> omega
   intro j f' x' hf hx';by_cases hj:j<fs.length
   ·rw [Yw hj] at hf
    rw [Yw (by rw [hacc.len];exact hj)] at hx';obtain ⟨B',E',a1,a2,a3,a4⟩:=hacc.each j f' x' hf hx';obtain ⟨k1,k2⟩:=key B' E' a2 a3;exact ⟨B',E',a1,Yq a2 h3.size,k1,fun W hW hbl=>a4 W hW (fun b hb1 hb2=>(hbl b hb1 hb2).trans (k2 b hb1 hb2))⟩
   ·have hj':j<(fs++[f]).length:=(Yb.1 hf).1
    have hj2:j=fs.length:=by simp at hj';omega
    subst hj2;rw [Yx (Ya _),Nat.sub_self] at hf;rw [Yx (by rw [hacc.len];exact Ya _),hacc.len,Nat.sub_self] at hx';simp at hf hx';subst hf hx';obtain ⟨k1,k2⟩:=key B E hE hown;exact ⟨B,E,hB,Yq hE h3.size,k1,fun W hW hbl=>hR W hW (fun b hb1 hb2=>(hbl b hb1 hb2).trans (k2 b hb1 hb2))⟩
theorem zGL {w:World}{ops:Array Oper}{o:Oper}{a:Act}{K:Act->World->Prop}{Q:Exit->Act->World->Prop}{E0:Prop}(hgd:o.guard=none) (s x:Operand) (t:TypeId)
  (ho:o.op=.call { callee:=.builtin .append,args:=#[s,x],argTypes:=#[t,t] })
  (e:TypeId) (k bytes:Nat) (z:Value) (hinfo:(P.info? e).map (fun i=>(i.zero,i.size,i.bytes))=some (some z,k,bytes)) (hz:z.cells.size=k) (hk:0<k) (hby:bytes<=1000) (ht:P.underlying t=some (.slice e))
  (lo base:Nat) (v:Value) (fs:List (List Value)) (xs:List α) (hs:a.eval s=v) (hacc:Acc e k R lo base w v fs xs)
  (ad:Addr) (c:Nat) (f:List Value) (y:α) (hx:a.eval x=.slice (some ad) 1 c) (hn:f.length=k) (hc:∀ (j:Nat) (u:Value),f[j]? = some u->w.cell? (ad.add j)=some u) (h1:∀u∈f,u.oneCell' = true)
  (hlen:fs.length<=1000000) (hbase:base<=w.heap.size)
  (B E:Nat) (hB:lo<=B) (hE:E<=w.heap.size) (hown:∀o,v.ownBlock=some o->o<B\/E<=o) (hR:∀W:World,E<=W.heap.size->(∀b,B<=b->b<E->W.heap[b]? = w.heap[b]?)->R W f y)
  (h:∀v' w',Acc e k R lo base w' v' (fs++[f]) (xs++[y])->Below base w w'->w.grownBy w' v.ownBlock->K (a.put o.dst v') w') :
  if Region.wanted o (yielded ops a.tmps)=true then Oper.wp P o a w K Q else E0:=by
 obtain ⟨i,hi,hz',hsize,hb'⟩:=info_parts hinfo;have hw:Region.wanted o (yielded ops a.tmps)=true:=by simp [Region.wanted,hgd]
 rw [if_pos hw];obtain ⟨v',w',hr,h2,h3,_,h5⟩:=run_append_own_at (P:=P) w base t o.type e i z k bytes ht hi hz' hsize hb' hz hk v fs.length fs.flatten hacc.own.own ad 1 c f (by omega) hc h1 (by simp only [maxLen];omega) (Yq (Nat.mul_le_mul (show fs.length+1<=1000001 by omega) hby) (by omega)) hbase;unfold Oper.wp execOp;simp only [ho,resolve,invoke,builtin,Sem.run_bind,Sem.run_pure,Result.andThen_ok,List.map_toArray,List.map_cons,List.map_nil,hs,hx,hr];refine h v' w' ⟨hacc.le,⟨?_,?_⟩,?_,?_⟩ ((Yp _ _).grown h3 hbase (fun k hk=>(hacc.own.lt k hk).1)) h3
 ·rw [Yu,List.flatten_append];simpa using h2
 ·intro f' hf
  rcases Yt.1 hf with hf | hf
  ·exact hacc.own.len f' hf
  ·rw [List.mem_singleton.1 hf];exact hn
 ·rw [Yu,Yu,hacc.len];rfl
 ·have key:∀ (B E:Nat),E<=w.heap.size->(∀o,v.ownBlock=some o->o<B\/E<=o)->(∀o,v'.ownBlock=some o->o<B\/E<=o)/\∀b,B<=b->b<E->w'.heap[b]? = w.heap[b]?:=by
   intro B E hE ho;refine ⟨fun o ho'=>?_,fun b hb1 hb2=>h3.block b (Yh hb2 hE) (fun e=>?_)⟩
   ·rcases h5 with h5 | h5
    ·exact ho o (by rw [<- h5];exact ho')
    ·rw [h5] at ho';injection ho' with ho';right;omega
   ·rcases ho b e.symm with hlt | hge <;> omega
  intro j f' x' hf hx';by_cases hj:j<fs.length
  ·rw [Yw hj] at hf
   rw [Yw (by rw [hacc.len];exact hj)] at hx';obtain ⟨B',E',a1,a2,a3,a4⟩:=hacc.each j f' x' hf hx';obtain ⟨k1,k2⟩:=key B' E' a2 a3;exact ⟨B',E',a1,Yq a2 h3.size,k1,fun W hW hbl=>a4 W hW (fun b hb1 hb2=>(hbl b hb1 hb2).trans (k2 b hb1 hb2))⟩
  ·have hj':j<(fs++[f]).length:=(Yb.1 hf).1
   have hj2:j=fs.length:=by simp at hj';omega
   subst hj2;rw [Yx (Ya _),Nat.sub_self] at hf;rw [Yx (by rw [hacc.len];exact Ya _),hacc.len,Nat.sub_self] at hx';simp at hf hx';subst hf hx';obtain ⟨k1,k2⟩:=key B E hE hown;exact ⟨B,E,hB,Yq hE h3.size,k1,fun W hW hbl=>hR W hW (fun b hb1 hb2=>(hbl b hb1 hb2).trans (k2 b hb1 hb2))⟩
end
def On (E:Nat) (F:Nat->Prop) (w:World) (P:World->Prop):Prop:=∀W:World,E<=W.heap.size->(∀b,F b->W.heap[b]? = w.heap[b]?)->P W
section
variable {E E':Nat}{F F':Nat->Prop}{w w':World}{P Q:World->Prop}
theorem On.here (h:On E F w P) (hE:E<=w.heap.size):P w:=h w hE (fun _ _=>rfl)
theorem On.sub (h:On E F w P) (hE:E<=E') (hF:∀b,F b->F' b):On E' F' w P:=fun W h1 h2=>h W (Yq hE h1) (fun b hb=>h2 b (hF b hb))
theorem On.move (h:On E F w P) (hb:∀b,F b->w'.heap[b]? = w.heap[b]?):On E F w' P:=fun W h1 h2=>h W h1 (fun b hF=>(h2 b hF).trans (hb b hF))
theorem On.imp (h:On E F w P) (hi:∀W,P W->Q W):On E F w Q:=fun W h1 h2=>hi W (h W h1 h2)
theorem Ly.on {B:Nat}(h:Ly B w P):On w.heap.size (fun b=>B<=b/\b<w.heap.size) w P:=fun W h1 h2=>h W h1 (fun b h3 h4=>h2 b ⟨h3,h4⟩)
end
theorem zCQ {f:FuncId}{fn:Func}{c:Code}(hf:Tryz.prog.funcs[f]? = some fn) (hname:(fn.name == "runtime.NumGoroutine")=false) (hb:fn.body=some c):∀ (args:Array Value) (w:World),(callFunc f args).run Tryz.prog w=.ok (.enter f args) w:=enters_of hf hname hb
theorem zQB (vs us:List Value) (x:Iv) (d:Dy) (w:World) (h:RI w vs x) (h':RD w us d) (hx:BdI x) (hd:Bd d):Calls Tryz.prog 98 #[.agg vs.toArray,.agg us.toArray] w (zBW (zCM x d) w):=by
 obtain ⟨A,n,c,B,m,b,rfl,h1,h2⟩:=h;obtain ⟨⟨ln,ll,le⟩,⟨un,ul,ue⟩,al⟩:=x;dsimp only at h1 h2 ⊢;have rI:RI w [.bool ln,.slice A n c,.int .i64 le,.bool un,.slice B m b,.int .i64 ue,.bool al] ⟨⟨ln,ll,le⟩,⟨un,ul,ue⟩,al⟩:=⟨A,n,c,B,m,b,rfl,h1,h2⟩;have r1:RD w [.bool ln,.slice A n c,.int .i64 le] ⟨ln,ll,le⟩:=⟨A,n,c,rfl,h1⟩;have r2:RD w [.bool un,.slice B m b,.int .i64 ue] ⟨un,ul,ue⟩:=⟨B,m,b,rfl,h2⟩;have HI:=Zh (fun W hb=>zAX w W _ _ rI hb);have H1:=Zh (fun W hb=>zAQ w W _ _ r1 hb);have H2:=Zh (fun W hb=>zAQ w W _ _ r2 hb);have HX:=Zh hx;clear h1 h2 hx r1 r2 rI;obtain ⟨C,p,q,rfl,h3⟩:=h';obtain ⟨dn,dl,de⟩:=d;dsimp only at h3 ⊢;have r3:RD w [.bool dn,.slice C p q,.int .i64 de] ⟨dn,dl,de⟩:=⟨C,p,q,rfl,h3⟩;have H3:=Zh (fun W hb=>zAQ w W _ _ r3 hb);have HD:=Zh hd;clear h3 r3 hd;have HV:Hid (zCM ⟨⟨ln,ll,le⟩,⟨un,ul,ue⟩,al⟩ ⟨dn,dl,de⟩=(ivV ⟨⟨ln,ll,le⟩,⟨un,ul,ue⟩,al⟩ && vld ⟨dn,dl,de⟩ && (al || (decide (zCH ⟨ln,ll,le⟩ ⟨dn,dl,de⟩<=0) && decide (zCH ⟨dn,dl,de⟩ ⟨un,ul,ue⟩<=0))))):=rfl;have hb0:=zAA (zAE w (.cells #[.bool ln,.slice A n c,.int .i64 le,.bool un,.slice B m b,.int .i64 ue,.bool al] 43)) (zAE (w.alloc (.cells #[.bool ln,.slice A n c,.int .i64 le,.bool un,.slice B m b,.int .i64 ue,.bool al] 43)) (.cells #[.bool dn,.slice C p q,.int .i64 de] 41));have k0:=(Blk.new w 43 #[.bool ln,.slice A n c,.int .i64 le,.bool un,.slice B m b,.int .i64 ue,.bool al]).next (zAE (w.alloc (.cells #[.bool ln,.slice A n c,.int .i64 le,.bool un,.slice B m b,.int .i64 ue,.bool al] 43)) (.cells #[.bool dn,.slice C p q,.int .i64 de] 41));have k1:Blk ((w.alloc (.cells #[.bool ln,.slice A n c,.int .i64 le,.bool un,.slice B m b,.int .i64 ue,.bool al] 43)).alloc (.cells #[.bool dn,.slice C p q,.int .i64 de] 41)) (w.heap.size+1) 41 #[.bool dn,.slice C p q,.int .i64 de]:=Blk.newAt _ _ _ (by simp);go_enter Tryz.func98,Tryz.ntmps98
 go_wp2_with fail
 generalize (w.alloc (.cells #[.bool ln,.slice A n c,.int .i64 le,.bool un,.slice B m b,.int .i64 ue,.bool al] 43)).alloc (.cells #[.bool dn,.slice C p q,.int .i64 de] 41)=W0 at *;refine (zD9 _ _ _ (HI.out _ hb0) HX.out).mono ?_;rintro e w1 ⟨rfl,hb1x⟩
 replace hb0:=zAA hb0 hb1x;replace k0:=k0.next hb1x;replace k1:=k1.next hb1x;clear hb1x;cases hv1:ivV ⟨⟨ln,ll,le⟩,⟨un,ul,ue⟩,al⟩
 ·rw [hv1] at HV
  clear hv1;go_wp2_with fail
  go_ret;exact ⟨by rw [HV.out];rfl,hb0⟩
 rw [hv1] at HV;clear hv1;obtain ⟨k0q0,k0q1,k0q2,k0q3,k0q4,k0q5,k0q6⟩:=k0.cells7;obtain ⟨k1q0,k1q1,k1q2⟩:=k1.cells3;go_wp2_with fail
 refine (zEl _ _ _ (H3.out _ hb0) HD.out).mono ?_;rintro e w2 ⟨rfl,hb2x⟩
 clear k0q0 k0q1 k0q2 k0q3 k0q4 k0q5 k0q6 k1q0 k1q1 k1q2;replace hb0:=zAA hb0 hb2x;replace k0:=k0.next hb2x;replace k1:=k1.next hb2x;clear hb2x;cases hv1:vld ⟨dn,dl,de⟩
 ·rw [hv1] at HV
  clear hv1;go_wp2_with fail
  go_ret;exact ⟨by rw [HV.out];rfl,hb0⟩
 rw [hv1] at HV;clear hv1;cases al
 ·obtain ⟨k0q0,k0q1,k0q2,k0q3,k0q4,k0q5,k0q6⟩:=k0.cells7
  obtain ⟨k1q0,k1q1,k1q2⟩:=k1.cells3;go_wp2_with fail
  refine (zIW _ _ _ _ _ (H1.out _ hb0) (H3.out _ hb0) HX.out.1 HD.out).mono ?_;rintro e w3 ⟨rfl,hb3x⟩
  clear k0q0 k0q1 k0q2 k0q3 k0q4 k0q5 k0q6 k1q0 k1q1 k1q2;replace hb0:=zAA hb0 hb3x;replace k0:=k0.next hb3x;replace k1:=k1.next hb3x;clear hb3x;generalize zCH ⟨ln,ll,le⟩ ⟨dn,dl,de⟩=r1 at *;cases hv1:decide (r1<=0)
  ·rw [hv1] at HV
   go_wp2_with fail
   go_ret;exact ⟨by rw [HV.out];rfl,hb0⟩
  rw [hv1] at HV;obtain ⟨k0q0,k0q1,k0q2,k0q3,k0q4,k0q5,k0q6⟩:=k0.cells7;obtain ⟨k1q0,k1q1,k1q2⟩:=k1.cells3;go_wp2_with fail
  refine (zIW _ _ _ _ _ (H3.out _ hb0) (H2.out _ hb0) HD.out HX.out.2).mono ?_;rintro e w4 ⟨rfl,hb4x⟩
  clear k0q0 k0q1 k0q2 k0q3 k0q4 k0q5 k0q6 k1q0 k1q1 k1q2;replace hb0:=zAA hb0 hb4x;replace k0:=k0.next hb4x;replace k1:=k1.next hb4x;clear hb4x;generalize zCH ⟨dn,dl,de⟩ ⟨un,ul,ue⟩=r2 at *;go_wp2_with fail
  go_ret;exact ⟨by rw [HV.out];rfl,hb0⟩
 ·obtain ⟨k0q0,k0q1,k0q2,k0q3,k0q4,k0q5,k0q6⟩:=k0.cells7
  obtain ⟨k1q0,k1q1,k1q2⟩:=k1.cells3;go_wp2_with fail
  go_ret;exact ⟨by rw [HV.out];rfl,hb0⟩
theorem zIS (vs:List Value) (x:Iv) (w:World) (h:RI w vs x) (hx:BdI x):Calls Tryz.prog 101 (#[.agg vs.toArray]++#[]) w (zBW (x.all || !ivV x) w):=by
 rw [Array.append_empty];obtain ⟨A,n,c,B,m,b,rfl,h1,h2⟩:=h;obtain ⟨⟨ln,ll,le⟩,⟨un,ul,ue⟩,al⟩:=x;dsimp only at h1 h2 ⊢;have rI:RI w [.bool ln,.slice A n c,.int .i64 le,.bool un,.slice B m b,.int .i64 ue,.bool al] ⟨⟨ln,ll,le⟩,⟨un,ul,ue⟩,al⟩:=⟨A,n,c,B,m,b,rfl,h1,h2⟩;have r1:RD w [.bool ln,.slice A n c,.int .i64 le] ⟨ln,ll,le⟩:=⟨A,n,c,rfl,h1⟩;have r2:RD w [.bool un,.slice B m b,.int .i64 ue] ⟨un,ul,ue⟩:=⟨B,m,b,rfl,h2⟩;have HI:=Zh (fun W hb=>zAX w W _ _ rI hb);have H1:=Zh (fun W hb=>zAQ w W _ _ r1 hb);have H2:=Zh (fun W hb=>zAQ w W _ _ r2 hb);have HX:=Zh hx;clear h1 h2 hx r1 r2 rI;have hb0:=zAE w (.cells #[.bool ln,.slice A n c,.int .i64 le,.bool un,.slice B m b,.int .i64 ue,.bool al] 43);have k0:=Blk.new w 43 #[.bool ln,.slice A n c,.int .i64 le,.bool un,.slice B m b,.int .i64 ue,.bool al];cases al
 ·have HV:Hid ((false || !ivV ⟨⟨ln,ll,le⟩,⟨un,ul,ue⟩,false⟩) = !ivV ⟨⟨ln,ll,le⟩,⟨un,ul,ue⟩,false⟩):=rfl
  go_enter Tryz.func101,Tryz.ntmps101
  go_wp2_with fail
  generalize w.alloc (.cells #[.bool ln,.slice A n c,.int .i64 le,.bool un,.slice B m b,.int .i64 ue,.bool false] 43)=W0 at *;refine (zD9 _ _ _ (HI.out _ hb0) HX.out).mono ?_;rintro e w1 ⟨rfl,hb1x⟩
  replace hb0:=zAA hb0 hb1x;replace k0:=k0.next hb1x;clear hb1x;generalize ivV ⟨⟨ln,ll,le⟩,⟨un,ul,ue⟩,false⟩=r at *;go_wp2_with fail
  go_ret;exact ⟨by rw [HV.out];rfl,hb0⟩
 ·have HV:Hid ((true || !ivV ⟨⟨ln,ll,le⟩,⟨un,ul,ue⟩,true⟩)=true):=rfl
  go_enter Tryz.func101,Tryz.ntmps101
  go_wp2_with fail
  go_ret;exact ⟨by rfl,hb0⟩
theorem zDh (A:Option Addr) (n c:Nat) (b:List Iv) (w:World) (h:Sl 7 RI w A n c b) (hx:∀x∈b,BdI x):Calls Tryz.prog 49 #[.slice A n c] w (zBW (zEO b) w):=by
 have HV:Hid (zEO b=(decide (1<=n) && decide (n<=8) && !b.any (fun x=>x.all || !ivV x))):=by unfold Hid zEO;rw [h.len]
 have HC:=Zh (zCv (fun x=>x.all || !ivV x) 101 #[] A n c b w h (zCQ Tryz.func101 (by kernel_rfl) rfl) (fun W vs x _ hm hr=>zIS vs x W hr (hx x hm)));have hm:=h.cap;have hm2:=h.max;clear h hx;by_cases h1:1<=n
 ·by_cases h8:n<=8
  ·go_enter Tryz.func49,Tryz.ntmps49
   go_wp2_with fail
   refine HC.out.mono ?_;rintro e w1 ⟨rfl,hb0⟩
   generalize b.any (fun x=>x.all || !ivV x)=r at *;go_wp2_with fail
   go_ret;exact ⟨by rw [HV.out,Yf h1,Yf h8];rfl,hb0⟩
  ·go_enter Tryz.func49,Tryz.ntmps49
   go_wp2_with fail
   go_ret;exact ⟨by rw [HV.out,Yf h1,Ye (show ¬ n<=8 by omega)];rfl,Yp _ _⟩
 ·go_enter Tryz.func49,Tryz.ntmps49
  go_wp2_with fail
  go_ret;exact ⟨by rw [HV.out,Ye (show ¬ 1<=n by omega)];rfl,Yp _ _⟩
theorem zDn (vs:List Value) (d:Dy) (w:World) (h:RD w vs d) (hd:Bd d):Calls Tryz.prog 95 (#[.agg vs.toArray]++#[]) w (zBW (!vld d) w):=by
 rw [Array.append_empty];obtain ⟨A,n,c,rfl,hs⟩:=h;obtain ⟨dn,dl,de⟩:=d;dsimp only at hs ⊢;have r1:RD w [.bool dn,.slice A n c,.int .i64 de] ⟨dn,dl,de⟩:=⟨A,n,c,rfl,hs⟩;have hb0:=zAE w (.cells #[.bool dn,.slice A n c,.int .i64 de] 41);have H1:=Zh (zAQ w _ _ _ r1 hb0);clear hs r1;go_enter Tryz.func95,Tryz.ntmps95
 go_wp2_with fail
 refine (zEl _ _ _ H1.out hd).mono ?_;rintro e w1 ⟨rfl,hb1⟩
 generalize vld ⟨dn,dl,de⟩=r at *;go_wp2_with fail
 go_ret;exact ⟨rfl,zAA hb0 hb1⟩
theorem zKR (vs:List Value) (d:Dy) (w:World) (h:RD w vs d) (hd:Bd d):Calls Tryz.prog 104 (#[.agg vs.toArray]++#[]) w (zBW (!vld d) w):=by
 rw [Array.append_empty];obtain ⟨A,n,c,rfl,hs⟩:=h;obtain ⟨dn,dl,de⟩:=d;dsimp only at hs ⊢;have r1:RD w [.bool dn,.slice A n c,.int .i64 de] ⟨dn,dl,de⟩:=⟨A,n,c,rfl,hs⟩;have hb0:=zAE w (.cells #[.bool dn,.slice A n c,.int .i64 de] 41);have H1:=Zh (zAQ w _ _ _ r1 hb0);clear hs r1;go_enter Tryz.func104,Tryz.ntmps104
 go_wp2_with fail
 refine (zEl _ _ _ H1.out hd).mono ?_;rintro e w1 ⟨rfl,hb1⟩
 generalize vld ⟨dn,dl,de⟩=r at *;go_wp2_with fail
 go_ret;exact ⟨rfl,zAA hb0 hb1⟩
theorem zKg:Bd zAZ:=by unfold Bd;simp [zAZ]
theorem zGr (vs:List Value) (x:Iv) (w:World) (h:RI w vs x) (hx:BdI x):Calls Tryz.prog 97 (#[.agg vs.toArray]++#[]) w (zBW (x.all || !zCM x zAZ) w):=by
 rw [Array.append_empty];obtain ⟨A,n,c,B,m,b,rfl,h1,h2⟩:=h;obtain ⟨⟨ln,ll,le⟩,⟨un,ul,ue⟩,al⟩:=x;dsimp only at h1 h2 ⊢;have rI:RI w [.bool ln,.slice A n c,.int .i64 le,.bool un,.slice B m b,.int .i64 ue,.bool al] ⟨⟨ln,ll,le⟩,⟨un,ul,ue⟩,al⟩:=⟨A,n,c,B,m,b,rfl,h1,h2⟩;have r1:RD w [.bool ln,.slice A n c,.int .i64 le] ⟨ln,ll,le⟩:=⟨A,n,c,rfl,h1⟩;have r2:RD w [.bool un,.slice B m b,.int .i64 ue] ⟨un,ul,ue⟩:=⟨B,m,b,rfl,h2⟩;have HI:=Zh (fun W hb=>zAX w W _ _ rI hb);have H1:=Zh (fun W hb=>zAQ w W _ _ r1 hb);have H2:=Zh (fun W hb=>zAQ w W _ _ r2 hb);have HX:=Zh hx;clear h1 h2 hx r1 r2 rI;have hb0:=zAE w (.cells #[.bool ln,.slice A n c,.int .i64 le,.bool un,.slice B m b,.int .i64 ue,.bool al] 43);have k0:=Blk.new w 43 #[.bool ln,.slice A n c,.int .i64 le,.bool un,.slice B m b,.int .i64 ue,.bool al];cases al
 ·have HV:Hid ((false || !zCM ⟨⟨ln,ll,le⟩,⟨un,ul,ue⟩,false⟩ zAZ) = !zCM ⟨⟨ln,ll,le⟩,⟨un,ul,ue⟩,false⟩ zAZ):=rfl
  go_enter Tryz.func97,Tryz.ntmps97
  go_wp2_with fail
  generalize w.alloc (.cells #[.bool ln,.slice A n c,.int .i64 le,.bool un,.slice B m b,.int .i64 ue,.bool false] 43)=W0 at *;refine (zQB _ [.bool false,.slice none 0 0,.int .i64 0] _ zAZ _ (HI.out _ hb0) ⟨none,0,0,rfl,SL.nil _⟩ HX.out zKg).mono ?_;rintro e w1 ⟨rfl,hb1x⟩
  replace hb0:=zAA hb0 hb1x;replace k0:=k0.next hb1x;clear hb1x;generalize zCM ⟨⟨ln,ll,le⟩,⟨un,ul,ue⟩,false⟩ zAZ=r at *;go_wp2_with fail
  go_ret;exact ⟨by rw [HV.out];rfl,hb0⟩
 ·have HV:Hid ((true || !zCM ⟨⟨ln,ll,le⟩,⟨un,ul,ue⟩,true⟩ zAZ)=true):=rfl
  go_enter Tryz.func97,Tryz.ntmps97
  go_wp2_with fail
  go_ret;exact ⟨by rfl,hb0⟩
theorem zGq (N:Nat) (gN gB:Nat) (vs:List Value) (l:List Dy) (w:World) (h:RM w vs l) (hd:∀d∈l,Bd d) (kN:w.cell? ⟨gN,0,none⟩=some (.int .i64 N)) (kB:w.cell? ⟨gB,0,none⟩=some (.func (.func 95) #[] #[])):Calls Tryz.prog 96 (#[(vs[0]?).getD undef]++#[.pointer (some ⟨gN,0,none⟩),.pointer (some ⟨gB,0,none⟩)]) w (zBW (decide (l.length≠N) || l.any (fun d=>!vld d)) w):=by
 obtain ⟨A,n,c,rfl,hs⟩:=h;have e:(#[(([.slice A n c]:List Value)[0]?).getD undef]++#[.pointer (some ⟨gN,0,none⟩),.pointer (some ⟨gB,0,none⟩)]:Array Value)=#[.slice A n c,.pointer (some ⟨gN,0,none⟩),.pointer (some ⟨gB,0,none⟩)]:=by simp
 rw [e];obtain ⟨r,hr⟩:∃r,l.any (fun d=>!vld d)=r:=⟨_,rfl⟩;have HV:Hid ((decide (l.length≠N) || l.any (fun d=>!vld d))=(decide (n≠N) || r)):=by unfold Hid;rw [hs.len,hr]
 have HC:=Zh (zCA (fun d=>!vld d) 95 #[] A n c l w hs (zCQ Tryz.func95 (by kernel_rfl) rfl) (fun W us d _ hm hr=>zDn us d W hr (hd d hm)));have hm:=hs.cap;have hm2:=hs.max;rw [hr] at HC;clear hs hd e hr;by_cases hn:n=N
 ·subst hn
  go_enter Tryz.func96,Tryz.ntmps96
  go_wp2_with fail
  refine HC.out.mono ?_;rintro e w1 ⟨rfl,hb0⟩
  go_wp2_with fail
  go_ret;exact ⟨by rw [HV.out,Ye (show ¬ n≠n by simp)];rfl,hb0⟩
 ·have hne:((n:Int) != (N:Int))=true:=by rw [bne_iff_ne];omega
  go_enter Tryz.func96,Tryz.ntmps96
  go_wp2_with fail
  go_ret;exact ⟨by rw [HV.out,Yf (show n≠N from hn)];rfl,Yp _ _⟩
theorem zLN (N:Nat) (gN:Nat) (vs:List Value) (l:List Dy) (w:World) (h:RM w vs l) (hd:∀d∈l,Bd d) (kN:w.cell? ⟨gN,0,none⟩=some (.int .i64 N)):Calls Tryz.prog 103 (#[(vs[0]?).getD undef]++#[.pointer (some ⟨gN,0,none⟩)]) w (zBW (decide (l.length≠N) || l.any (fun d=>!vld d)) w):=by
 obtain ⟨A,n,c,rfl,hs⟩:=h;have e:(#[(([.slice A n c]:List Value)[0]?).getD undef]++#[.pointer (some ⟨gN,0,none⟩)]:Array Value)=#[.slice A n c,.pointer (some ⟨gN,0,none⟩)]:=by simp
 rw [e];obtain ⟨r,hr⟩:∃r,l.any (fun d=>!vld d)=r:=⟨_,rfl⟩;have HV:Hid ((decide (l.length≠N) || l.any (fun d=>!vld d))=(decide (n≠N) || r)):=by unfold Hid;rw [hs.len,hr]
 have HC:=Zh (zCA (fun d=>!vld d) 104 #[] A n c l w hs (zCQ Tryz.func104 (by kernel_rfl) rfl) (fun W us d _ hm hr=>zKR us d W hr (hd d hm)));have hm:=hs.cap;have hm2:=hs.max;rw [hr] at HC;clear hs hd e hr;by_cases hn:n=N
 ·subst hn
  go_enter Tryz.func103,Tryz.ntmps103
  go_wp2_with fail
  refine HC.out.mono ?_;rintro e w1 ⟨rfl,hb0⟩
  go_wp2_with fail
  go_ret;exact ⟨by rw [HV.out,Ye (show ¬ n≠n by simp)];rfl,hb0⟩
 ·have hne:((n:Int) != (N:Int))=true:=by rw [bne_iff_ne];omega
  go_enter Tryz.func103,Tryz.ntmps103
  go_wp2_with fail
  go_ret;exact ⟨by rw [HV.out,Yf (show n≠N from hn)];rfl,Yp _ _⟩
def sqV (v:List (List Dy)) (N:Nat):Bool:=decide (v.length=N) && !v.any (fun l=>decide (l.length≠N) || l.any (fun d=>!vld d))
theorem zNE (N:Nat) (A:Option Addr) (n c:Nat) (v:List (List Dy)) (w:World) (h:Sl 1 RM w A n c v) (hx:∀l∈v,∀d∈l,Bd d):Calls Tryz.prog 50 #[.slice A n c,.int .i64 N] w (zBW (sqV v N) w):=by
 have hmf:∀ (fn:Fn) (first cap:Array Value) (w:World),(Instr.makeFunc fn first cap).run Tryz.prog w=.ok (.func fn first cap) w:=fun _ _ _ _=>rfl
 have HV:Hid (sqV v N=(decide (n=N) && !v.any (fun l=>decide (l.length≠N) || l.any (fun d=>!vld d)))):=by unfold Hid sqV;rw [h.len]
 have hb0:=zAE w (.cells #[.int .i64 N] 3);have k0:=Blk.new w 3 #[.int .i64 N];have HC:=Zh (zCw (fun l=>decide (l.length≠N) || l.any (fun d=>!vld d)) 103 #[.pointer (some ⟨w.heap.size,0,none⟩)] A n c v _ (h.next zAh hb0) (zCQ Tryz.func103 (by kernel_rfl) rfl) (fun W vs l hb hm hr=>zLN N w.heap.size vs l W hr (hx l hm) (k0.next hb).cells1));have hm:=h.cap;have hm2:=h.max;clear h hx;by_cases hn:n=N
 ·subst hn
  go_enter Tryz.func50,Tryz.ntmps50
  go_wp2_with fail
  refine HC.out.mono ?_;rintro e w1 ⟨rfl,hb1⟩
  generalize v.any (fun l=>decide (l.length≠n) || l.any (fun d=>!vld d))=r at *;go_wp2_with fail
  go_ret;exact ⟨by rw [HV.out];first | rfl | simp,zAA hb0 hb1⟩
 ·have hne:((n:Int) == (N:Int))=false:=by rw [Xi];omega
  go_enter Tryz.func50,Tryz.ntmps50
  go_wp2_with fail
  go_ret;exact ⟨by rw [HV.out,Ye hn];rfl,hb0⟩
theorem zEQ (vs:List Value) (f:Fr) (w:World) (h:RF w vs f) (hx:BdF f):Calls Tryz.prog 44 #[.agg vs.toArray] w (zBW (frV f) w):=by
 have hmf:∀ (fn:Fn) (first cap:Array Value) (w:World),(Instr.makeFunc fn first cap).run Tryz.prog w=.ok (.func fn first cap) w:=fun _ _ _ _=>rfl
 obtain ⟨A,n,c,B,m,d,C,p,q,rfl,h1,h2,h3⟩:=h;have HV:Hid (frV f=(decide (1<=n) && decide (n<=8) && decide (m=n) && decide (p=n) && !f.c.any (fun d=>!vld d) && !f.a.any (fun l=>decide (l.length≠n) || l.any (fun d=>!vld d)) && !f.r.any (fun x=>x.all || !zCM x zAZ))):=by unfold Hid frV;rw [h1.len,h2.len,h3.len]
 have m1:=h1.cap;have m2:=h1.max;have m3:=h2.cap;have m4:=h2.max;have m5:=h3.cap;have m6:=h3.max;have hbx:=zAA (zAA (zAE w (.cells #[.slice A n c,.slice B m d,.slice C p q] 26)) (zAE (w.alloc (.cells #[.slice A n c,.slice B m d,.slice C p q] 26)) (.cells #[.int .i64 n] 3))) (zAE ((w.alloc (.cells #[.slice A n c,.slice B m d,.slice C p q] 26)).alloc (.cells #[.int .i64 n] 3)) (.cells #[.func (.func 95) #[] #[]] 89));have hbs:=zAA (zAE w (.cells #[.slice A n c,.slice B m d,.slice C p q] 26)) (zAE (w.alloc (.cells #[.slice A n c,.slice B m d,.slice C p q] 26)) (.cells #[.int .i64 n] 3));have k0:=((Blk.new w 26 #[.slice A n c,.slice B m d,.slice C p q]).next (zAE (w.alloc (.cells #[.slice A n c,.slice B m d,.slice C p q] 26)) (.cells #[.int .i64 n] 3))).next (zAE ((w.alloc (.cells #[.slice A n c,.slice B m d,.slice C p q] 26)).alloc (.cells #[.int .i64 n] 3)) (.cells #[.func (.func 95) #[] #[]] 89));have k1:=(Blk.newAt (w.alloc (.cells #[.slice A n c,.slice B m d,.slice C p q] 26)) 3 #[.int .i64 n] (g:=w.heap.size+1) (by simp)).next (zAE ((w.alloc (.cells #[.slice A n c,.slice B m d,.slice C p q] 26)).alloc (.cells #[.int .i64 n] 3)) (.cells #[.func (.func 95) #[] #[]] 89));have k2:Blk (((w.alloc (.cells #[.slice A n c,.slice B m d,.slice C p q] 26)).alloc (.cells #[.int .i64 n] 3)).alloc (.cells #[.func (.func 95) #[] #[]] 89)) (w.heap.size+1+1) 89 #[.func (.func 95) #[] #[]]:=Blk.newAt _ _ _ (by simp);have HA:=Zh (fun W (hb:Below w.heap.size w W)=>zCA (fun d=>!vld d) 95 #[] A n c f.c W (h1.next zAQ hb) (zCQ Tryz.func95 (by kernel_rfl) rfl) (fun V us d _ hm hr=>zDn us d V hr (hx.c d hm)));have HB:=Zh (fun W (hb:Below w.heap.size w W) (gN gB:Nat) (kN:Blk W gN 3 #[.int .i64 n]) (kB:Blk W gB 89 #[.func (.func 95) #[] #[]])=>zCw (fun l=>decide (l.length≠n) || l.any (fun d=>!vld d)) 96 #[.pointer (some ⟨gN,0,none⟩),.pointer (some ⟨gB,0,none⟩)] B m d f.a W (h2.next zAh hb) (zCQ Tryz.func96 (by kernel_rfl) rfl) (fun V us l hb' hm hr=>zGq n gN gB us l V hr (hx.a l hm) (kN.next hb').cells1 (kB.next hb').cells1));have HC:=Zh (fun W (hb:Below w.heap.size w W)=>zCv (fun x=>x.all || !zCM x zAZ) 97 #[] C p q f.r W (h3.next zAX hb) (zCQ Tryz.func97 (by kernel_rfl) rfl) (fun V us x _ hm hr=>zGr us x V hr (hx.r x hm)));clear h1 h2 h3 hx;generalize f.c.any (fun d=>!vld d)=rc at *;generalize f.a.any (fun l=>decide (l.length≠n) || l.any (fun d=>!vld d))=ra at *;generalize f.r.any (fun x=>x.all || !zCM x zAZ)=rr at *;by_cases e1:1<=n
 rotate_left
 ·clear k0 k1 k2 hbx HA HB HC
  go_enter Tryz.func44,Tryz.ntmps44
  go_wp2_with fail
  go_ret;exact ⟨by rw [HV.out,Ye (show ¬ 1<=n by omega)];rfl,hbs⟩
 by_cases e2:n<=8
 rotate_left
 ·clear k0 k1 k2 hbx HA HB HC
  go_enter Tryz.func44,Tryz.ntmps44
  go_wp2_with fail
  go_ret;exact ⟨by rw [HV.out,Yf e1,Ye (show ¬ n<=8 by omega)];rfl,hbs⟩
 by_cases e3:m=n
 rotate_left
 ·clear k0 k1 k2 hbx HA HB HC
  have hne:((m:Int) != (n:Int))=true:=by rw [bne_iff_ne];omega
  go_enter Tryz.func44,Tryz.ntmps44
  go_wp2_with fail
  go_ret;exact ⟨by rw [HV.out,Yf e1,Yf e2,Ye e3];rfl,hbs⟩
 have HE3:=Zh e3;have he3:((m:Int) != (n:Int))=false:=by rw [e3];simp
 clear e3;by_cases e4:p=n
 rotate_left
 ·clear k0 k1 k2 hbx HA HB HC
  have hne:((p:Int) != (n:Int))=true:=by rw [bne_iff_ne];omega
  go_enter Tryz.func44,Tryz.ntmps44
  go_wp2_with fail
  go_ret;exact ⟨by rw [HV.out,Yf e1,Yf e2,Yf HE3.out,Ye e4];rfl,hbs⟩
 have HE4:=Zh e4;have he4:((p:Int) != (n:Int))=false:=by rw [e4];simp
 clear e4;rw [Yf e1,Yf e2,Yf HE3.out,Yf HE4.out] at HV;clear hbs;go_enter Tryz.func44,Tryz.ntmps44
 go_wp2_with fail
 generalize (((w.alloc (.cells #[.slice A n c,.slice B m d,.slice C p q] 26)).alloc (.cells #[.int .i64 n] 3)).alloc (.cells #[.func (.func 95) #[] #[]] 89))=W0 at *;refine (HA.out _ hbx).mono ?_;rintro e w1 ⟨rfl,hb1x⟩
 replace hbx:=zAA hbx hb1x;replace k0:=k0.next hb1x;replace k1:=k1.next hb1x;replace k2:=k2.next hb1x;clear hb1x;cases hv1:rc;rotate_left
 ·rw [hv1] at HV
  clear hv1;go_wp2_with fail
  go_ret;exact ⟨by rw [HV.out];rfl,hbx⟩
 rw [hv1] at HV;clear hv1;obtain ⟨k0q0,k0q1,k0q2⟩:=k0.cells3;have k1q0:=k1.cells1;have k2q0:=k2.cells1;go_wp2_with fail
 refine (HB.out _ hbx _ _ k1 k2).mono ?_;rintro e w2 ⟨rfl,hb2x⟩
 clear k0q0 k0q1 k0q2 k1q0 k2q0;replace hbx:=zAA hbx hb2x;replace k0:=k0.next hb2x;replace k1:=k1.next hb2x;replace k2:=k2.next hb2x;clear hb2x;cases hv1:ra;rotate_left
 ·rw [hv1] at HV
  clear hv1;go_wp2_with fail
  go_ret;exact ⟨by rw [HV.out];rfl,hbx⟩
 rw [hv1] at HV;clear hv1;obtain ⟨k0q0,k0q1,k0q2⟩:=k0.cells3;have k1q0:=k1.cells1;have k2q0:=k2.cells1;go_wp2_with fail
 refine (HC.out _ hbx).mono ?_;rintro e w3 ⟨rfl,hb3x⟩
 clear k0q0 k0q1 k0q2 k1q0 k2q0;replace hbx:=zAA hbx hb3x;replace k0:=k0.next hb3x;replace k1:=k1.next hb3x;replace k2:=k2.next hb3x;clear hb3x;go_wp2_with fail
 go_ret;exact ⟨by rw [HV.out];rfl,hbx⟩
end Go.Proofs.YtchkfjgcbbbffaaGreatDoor
end
