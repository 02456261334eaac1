/- Bundle 14: what the law's walk stands on: S21. -/
import Derived.Test.YtchkfjgcbbbffaaGreatDoorW10
set_option maxRecDepth 100000
set_option maxHeartbeats 20000000
set_option linter.all false
noncomputable section
namespace Go.Proofs.YtchkfjgcbbbffaaGreatDoor
open Go.RowKit Pl Go.Shelf
def trK (x:Ct) (k:Nat):Tk:=⟨x.start::(x.links.take k).map Lk.e,(x.links.take k).map Lk.v,(x.links.take k).map Lk.tube,(x.links.take k).map Lk.h⟩
theorem zmw {x:Ct}{k:Nat}{y:Lk}(h:x.links[k]? = some y):trK x (k+1)=⟨(trK x k).frames++[y.e],(trK x k).v++[y.v],(trK x k).tubes++[y.tube],(trK x k).steps++[y.h]⟩:=by
 unfold trK;rw [List.take_add_one,h];simp
theorem zmy {x:Ct}{k:Nat}(h:x.links.length<=k):trK x k=trP x:=by
 unfold trK trP;rw [Xe h]
theorem zmf:(Tryz.prog.info? 26).map (fun i=>(i.zero,i.size,i.bytes))=some (some (.agg #[.slice none 0 0,.slice none 0 0,.slice none 0 0]),3,72):=by kernel_rfl
theorem zmp:(Tryz.prog.info? 23).map (fun i=>(i.zero,i.size,i.bytes))=some (some (.slice none 0 0),1,24):=by kernel_rfl
theorem zmo:(Tryz.prog.info? 24).map (fun i=>(i.zero,i.size,i.bytes))=some (some (.slice none 0 0),1,24):=by kernel_rfl
theorem zm0:(Tryz.prog.info? 41).map (fun i=>(i.zero,i.size,i.bytes))=some (some (.agg #[.bool false,.slice none 0 0,.int .i64 0]),3,40):=by kernel_rfl
theorem zm5:HpO RF:=by
 rintro W W' vs x e ⟨A,n,c,B,m,d,C,p,q,rfl,h1,h2,h3⟩
 exact ⟨A,n,c,B,m,d,C,p,q,rfl,h1.hp zSP e,h2.hp zUC e,h3.hp zUA e⟩
theorem zm3 {w:World}{A:Option Addr}{n c:Nat}{xs:List Lk}(h:Sl 8 RL w A n c xs):On w.heap.size (fun b=>b<w.heap.size) w (fun W=>Sl 8 RL W A n c xs):=fun W k1 k2=>
 (h.next zBt (⟨rfl,rfl,rfl,k1,k2⟩:Below w.heap.size w { w with heap:=W.heap })).hp zUB rfl
theorem zmY {E:Nat}{G:Nat->Prop}{w:World}{H:Option Addr}{hn hc:Nat}{T:Option Addr}{tn tc:Nat}{A:Option Addr}{n c:Nat}{B:Option Addr}{m d:Nat}{C:Option Addr}{p q:Nat}{V:Option Addr}{vn vc:Nat}{x:Lk}
  (h:On E G w (fun W=>RL W [.bool x.h.neg,.slice H hn hc,.int .i64 x.h.e,.slice T tn tc,.slice A n c,.slice B m d,.slice C p q,.slice V vn vc] x)) :
  On E G w (fun W=>RF W [.slice A n c,.slice B m d,.slice C p q] x.e)/\On E G w (fun W=>RV1 W [.slice V vn vc] x.v)/\On E G w (fun W=>RB1 W [.slice T tn tc] x.tube)/\On E G w (fun W=>RD W [.bool x.h.neg,.slice H hn hc,.int .i64 x.h.e] x.h):=by
 have key:∀W:World,E<=W.heap.size->(∀b,G b->W.heap[b]? = w.heap[b]?)->SL W H hn hc x.h.l/\Sl 7 RI W T tn tc x.tube/\Sl 3 RD W A n c x.e.c/\Sl 1 RM W B m d x.e.a/\Sl 7 RI W C p q x.e.r/\Sl 1 RM W V vn vc x.v:=fun W h1 h2=>by
  obtain ⟨H',hn',hc',T',tn',tc',A',n',c',B',m',d',C',p',q',V',vn',vc',e,k⟩:=h W h1 h2;simp at e;obtain ⟨⟨rfl,rfl,rfl⟩,⟨rfl,rfl,rfl⟩,⟨rfl,rfl,rfl⟩,⟨rfl,rfl,rfl⟩,⟨rfl,rfl,rfl⟩,rfl,rfl,rfl⟩:=e;exact k
 exact ⟨fun W h1 h2=>⟨_,_,_,_,_,_,_,_,_,rfl,(key W h1 h2).2.2.1,(key W h1 h2).2.2.2.1,(key W h1 h2).2.2.2.2.1⟩,fun W h1 h2=>⟨_,_,_,rfl,(key W h1 h2).2.2.2.2.2⟩,fun W h1 h2=>⟨_,_,_,rfl,(key W h1 h2).2.1⟩,fun W h1 h2=>⟨_,_,_,rfl,(key W h1 h2).1⟩⟩
theorem zm1 {g b:Nat}{a n c:Nat}(h:b≠g):Nb g (.slice (some ⟨b,a,none⟩) n c) (.slice none 0 0) (.slice none 0 0) (.slice none 0 0):=by
 refine ⟨fun e=>?_,(by intro e;cases e),(by intro e;cases e),(by intro e;cases e)⟩;injection e with e
 exact h e
theorem zm8 {fn:Func}{k:Nat}(h:fn.results=#[.cell k 36]) {tmps:Array Value}{W:World}{g:Nat}{t:TypeId}{x0 x1 x2 x3:Value}(hk:tmps.getD k undef=.pointer (some ⟨g,0,none⟩)) (hB:Blk W g t #[x0,x1,x2,x3]) :
  (results fn tmps).run Tryz.prog W=.ok (.agg #[x0,x1,x2,x3]) W:=by
 have c0:=hB.cell 0;have c1:=hB.cell 1;have c2:=hB.cell 2;have c3:=hB.cell 3;simp at c0 c1 c2 c3;have hk':tmps[k]?.getD undef=.pointer (some ⟨g,0,none⟩):=by simpa using hk
 simp [results,h,hk',go_sem,c0,c1,c2,c3]
structure TrI (lo base tb rb:Nat) (w wr:World) (x:Ct) (k:Nat) (F V T U:Value) (fF fV fT fS:List (List Value)):Prop where
 tk:TkA lo base wr F V T U fF fV fT fS (trK x k)
 bt:Bt lo wr tb 36 #[F,V,T,U] F V T U
 br:Bt lo wr rb 36 #[.slice none 0 0,.slice none 0 0,.slice none 0 0,.slice none 0 0] F V T U
 b:Below lo w wr
 s:base<=wr.heap.size
def Tk.adF (t:Tk) (y:Fr):Tk:={ t with frames:=t.frames++[y] }
def Tk.adV (t:Tk) (y:List (List Dy)):Tk:={ t with v:=t.v++[y] }
def Tk.adT (t:Tk) (y:List Iv):Tk:={ t with tubes:=t.tubes++[y] }
def Tk.adS (t:Tk) (y:Dy):Tk:={ t with steps:=t.steps++[y] }
structure StT (base tb rb lb:Nat) (w W:World) (LC:Array Value) (F V T U cF cV cT cU:Value) (fF fV fT fS:List (List Value)) (tr:Tk):Prop where
 tk:TkA w.heap.size base W cF cV cT cU fF fV fT fS tr
 s:base<=W.heap.size
 b:Below w.heap.size w W
 t:Bt w.heap.size W tb 36 #[F,V,T,U] cF cV cT cU
 r:Bt w.heap.size W rb 36 #[.slice none 0 0,.slice none 0 0,.slice none 0 0,.slice none 0 0] cF cV cT cU
 l:Bt w.heap.size W lb 86 LC cF cV cT cU
section
variable {base tb rb lb:Nat}{w W W':World}{LC:Array Value}{F V T U cF cV cT cU v':Value}{fF fV fT fS:List (List Value)}{f:List Value}{tr:Tk}
theorem StT.lo (h:StT base tb rb lb w W LC F V T U cF cV cT cU fF fV fT fS tr):w.heap.size<=W.heap.size:=Yq h.tk.f.le h.s
theorem StT.S (h:StT base tb rb lb w W LC F V T U cF cV cT cU fF fV fT fS tr):Blk W tb 36 #[F,V,T,U]/\Blk W lb 86 LC:=⟨h.t.blk,h.l.blk⟩
theorem StT.alloc (h:StT base tb rb lb w W LC F V T U cF cV cT cU fF fV fT fS tr) (o:Obj):StT base tb rb lb w (W.alloc o) LC F V T U cF cV cT cU fF fV fT fS tr:=
 ⟨h.tk.below h.lo (zAE _ _),Yq h.s (zAE W o).size,zAA h.b (zAE _ _),h.t.alloc o,h.r.alloc o,h.l.alloc o⟩
theorem StT.grow (h:StT base tb rb lb w W LC F V T U cF cV cT cU fF fV fT fS tr) {v:Value}(h3:W.grownBy W' v.ownBlock) (hv:∀g,v.ownBlock=some g->base<=g):base<=W'.heap.size/\Below w.heap.size w W':=
 have hle:=h.tk.f.le
 ⟨Yq h.s h3.size,h.b.trans ((Yp _ _).grown h3 h.lo (fun k hk=>by have:=hv k hk;omega))⟩
theorem StT.addF (h:StT base tb rb lb w W LC F V T U cF cV cT cU fF fV fT fS tr) {y:Fr}(h2:W'.ownsRow base 26 3 v' (fF.length+1) (fF.flatten++f)) (h3:W.grownBy W' cF.ownBlock) (h5:v'.ownBlock=cF.ownBlock\/v'.ownBlock=some W.heap.size) (hn:f.length=3)
  (hR:On w.heap.size (fun b=>b<w.heap.size) W (fun W=>RF W f y)):StT base tb rb lb w W' LC F V T U v' cV cT cU (fF++[f]) fV fT fS (tr.adF y):=
 have hg:=h.grow h3 (fun g e=>(h.tk.f.lt g e).1)
 ⟨h.tk.addF h.lo h2 h3 h5 hn hR,hg.1,hg.2,h.t.addF h3 h5,h.r.addF h3 h5,h.l.addF h3 h5⟩
theorem StT.addV (h:StT base tb rb lb w W LC F V T U cF cV cT cU fF fV fT fS tr) {y:List (List Dy)}(h2:W'.ownsRow base 23 1 v' (fV.length+1) (fV.flatten++f)) (h3:W.grownBy W' cV.ownBlock) (h5:v'.ownBlock=cV.ownBlock\/v'.ownBlock=some W.heap.size) (hn:f.length=1)
  (hR:On w.heap.size (fun b=>b<w.heap.size) W (fun W=>RV1 W f y)):StT base tb rb lb w W' LC F V T U cF v' cT cU fF (fV++[f]) fT fS (tr.adV y):=
 have hg:=h.grow h3 (fun g e=>(h.tk.v.lt g e).1)
 ⟨h.tk.addV h.lo h2 h3 h5 hn hR,hg.1,hg.2,h.t.addV h3 h5,h.r.addV h3 h5,h.l.addV h3 h5⟩
theorem StT.addT (h:StT base tb rb lb w W LC F V T U cF cV cT cU fF fV fT fS tr) {y:List Iv}(h2:W'.ownsRow base 24 1 v' (fT.length+1) (fT.flatten++f)) (h3:W.grownBy W' cT.ownBlock) (h5:v'.ownBlock=cT.ownBlock\/v'.ownBlock=some W.heap.size) (hn:f.length=1)
  (hR:On w.heap.size (fun b=>b<w.heap.size) W (fun W=>RB1 W f y)):StT base tb rb lb w W' LC F V T U cF cV v' cU fF fV (fT++[f]) fS (tr.adT y):=
 have hg:=h.grow h3 (fun g e=>(h.tk.t.lt g e).1)
 ⟨h.tk.addT h.lo h2 h3 h5 hn hR,hg.1,hg.2,h.t.addT h3 h5,h.r.addT h3 h5,h.l.addT h3 h5⟩
theorem StT.addS (h:StT base tb rb lb w W LC F V T U cF cV cT cU fF fV fT fS tr) {y:Dy}(h2:W'.ownsRow base 41 3 v' (fS.length+1) (fS.flatten++f)) (h3:W.grownBy W' cU.ownBlock) (h5:v'.ownBlock=cU.ownBlock\/v'.ownBlock=some W.heap.size) (hn:f.length=3)
  (hR:On w.heap.size (fun b=>b<w.heap.size) W (fun W=>RD W f y)):StT base tb rb lb w W' LC F V T U cF cV cT v' fF fV fT (fS++[f]) (tr.adS y):=
 have hg:=h.grow h3 (fun g e=>(h.tk.s.lt g e).1)
 ⟨h.tk.addS h.lo h2 h3 h5 hn hR,hg.1,hg.2,h.t.addS h3 h5,h.r.addS h3 h5,h.l.addS h3 h5⟩
theorem StT.start {wr W1:World}{x:Ct}{k:Nat}(h:TrI w.heap.size base tb rb w wr x k F V T U fF fV fT fS) (hb:Below wr.heap.size wr W1) (hl:Bt w.heap.size W1 lb 86 LC F V T U):StT base tb rb lb w W1.drew LC F V T U F V T U fF fV fT fS (trK x k):=
 have hle:w.heap.size<=wr.heap.size:=Yq h.tk.f.le h.s;have hb1:=zAA hb (zBw W1)
 ⟨h.tk.below hle hb1,Yq h.s hb1.size,zAA h.b hb1,⟨h.bt.blk.next hb1,h.bt.le,h.bt.nb⟩,⟨h.br.blk.next hb1,h.br.le,h.br.nb⟩,⟨hl.blk.next (zBw W1),hl.le,hl.nb⟩⟩
theorem StT.fin (h:StT base tb rb lb w W LC F V T U cF cV cT cU fF fV fT fS tr) {x:Ct}{k:Nat}(hk:trK x k=tr) (hne:rb≠tb):TrI w.heap.size base tb rb w ((((W.setCell ⟨tb,0,none⟩ cF).setCell ⟨tb,1,none⟩ cV).setCell ⟨tb,2,none⟩ cT).setCell ⟨tb,3,none⟩ cU) x k cF cV cT cU fF fV fT fS:=by
 have hkr:KR tb W ((((W.setCell ⟨tb,0,none⟩ cF).setCell ⟨tb,1,none⟩ cV).setCell ⟨tb,2,none⟩ cT).setCell ⟨tb,3,none⟩ cU):=(((KR.set 0 cF).trans (KR.set 1 cV)).trans (KR.set 2 cT)).trans (KR.set 3 cU);subst hk;exact ⟨h.tk.keep h.lo (fun b hb hne=>hkr.block b hb hne) h.t.le h.t.nb.1 h.t.nb.2.1 h.t.nb.2.2.1 h.t.nb.2.2.2,⟨(((h.t.blk.set_ 0 cF).set_ 1 cV).set_ 2 cT).set_ 3 cU,h.t.le,h.t.nb⟩,⟨hkr.blk h.r.blk hne,h.r.le,h.r.nb⟩,h.b.trans (hkr.below h.lo h.t.le),Yq h.s hkr.size⟩
end
theorem ofX {X Y:Nat->Array Bool->Act->World->Prop}(hX:Y=X) {f f':Nat}{l l':Array Bool}{a a':Act}{w:World}(hf:f=f') (hl:l=l') (ha:a=a') (h:X f' l' a' w):Y f l a w:=by subst hX hf hl ha;exact h
def lsB (n:Nat):Array Bool:=((List.range 32).map fun i=>n.testBit i).toArray
def rpO (g:String->String) (o:Oper):Oper:={ o with pos:=g o.pos }
def rp (g:String->String):Code->Code
 | .region i ops d=>.region i (ops.map (rpO g)) d
 | .seq a b=>.seq (rp g a) (rp g b)
 | .cond c a b=>.cond c (rp g a) (rp g b)
 | .block i b=>.block i (rp g b)
 | .loop b=>.loop (rp g b)
 | .rangeFunc f p a b=>.rangeFunc f p (rp g a) (rp g b)
 | .scope b=>.scope (rp g b)
 | c=>c
def zqT:Code:=Tryz.f9.body.getD .skip
theorem zqS (fi:FuncId) (fn:Func) (g:String->String) (hfi:Tryz.prog.funcs[fi]? = some fn) (hfb:fn.body=some (rp g zqT)) (hfn:fn.ntmps=47) (hfr:fn.results=#[.cell 2 36]) (vs:List Value) (x:Ct) (w:World) (h:RC w vs x) (hl:x.links.length<=1000):Calls Tryz.prog fi #[.agg vs.toArray] w fun e w'=>∃us:List Value,e=.returned (.agg us.toArray)/\us.length=4/\RT w' us (trP x)/\Below w.heap.size w w':=by
 obtain ⟨xA,xn,xc,xB,xm,xd,xC,xp,xq,xL,xln,xlc,rfl,h1,h2,h3,h4⟩:=h;have hW1:=zAE w (.cells #[.int .i64 x.prec,.int .i64 x.order,.slice xA xn xc,.slice xB xm xd,.slice xC xp xq,.slice xL xln xlc] 29);have hW2:=zAE (w.alloc (.cells #[.int .i64 x.prec,.int .i64 x.order,.slice xA xn xc,.slice xB xm xd,.slice xC xp xq,.slice xL xln xlc] 29)) (.cells #[.slice none 0 0,.slice none 0 0,.slice none 0 0,.slice none 0 0] 36);have hW3:=zAE ((w.alloc (.cells #[.int .i64 x.prec,.int .i64 x.order,.slice xA xn xc,.slice xB xm xd,.slice xC xp xq,.slice xL xln xlc] 29)).alloc (.cells #[.slice none 0 0,.slice none 0 0,.slice none 0 0,.slice none 0 0] 36)) (.cells #[.slice xA xn xc,.slice xB xm xd,.slice xC xp xq] 26);have hW4:=zAE (((w.alloc (.cells #[.int .i64 x.prec,.int .i64 x.order,.slice xA xn xc,.slice xB xm xd,.slice xC xp xq,.slice xL xln xlc] 29)).alloc (.cells #[.slice none 0 0,.slice none 0 0,.slice none 0 0,.slice none 0 0] 36)).alloc (.cells #[.slice xA xn xc,.slice xB xm xd,.slice xC xp xq] 26)) (.cells #[.slice (some ⟨w.heap.size+1+1,0,none⟩) 1 1,.slice none 0 0,.slice none 0 0,.slice none 0 0] 36);have kx2:=(Blk.new w 29 #[.int .i64 x.prec,.int .i64 x.order,.slice xA xn xc,.slice xB xm xd,.slice xC xp xq,.slice xL xln xlc]).next hW2;have kx4:=(kx2.next hW3).next hW4;have kr4:=((Blk.newAt (w.alloc (.cells #[.int .i64 x.prec,.int .i64 x.order,.slice xA xn xc,.slice xB xm xd,.slice xC xp xq,.slice xL xln xlc] 29)) 36 #[.slice none 0 0,.slice none 0 0,.slice none 0 0,.slice none 0 0] (g:=w.heap.size+1) (by simp)).next hW3).next hW4;have kf4:=(Blk.newAt ((w.alloc (.cells #[.int .i64 x.prec,.int .i64 x.order,.slice xA xn xc,.slice xB xm xd,.slice xC xp xq,.slice xL xln xlc] 29)).alloc (.cells #[.slice none 0 0,.slice none 0 0,.slice none 0 0,.slice none 0 0] 36)) 26 #[.slice xA xn xc,.slice xB xm xd,.slice xC xp xq] (g:=w.heap.size+1+1) (by simp)).next hW4;have kt4:Blk ((((w.alloc (.cells #[.int .i64 x.prec,.int .i64 x.order,.slice xA xn xc,.slice xB xm xd,.slice xC xp xq,.slice xL xln xlc] 29)).alloc (.cells #[.slice none 0 0,.slice none 0 0,.slice none 0 0,.slice none 0 0] 36)).alloc (.cells #[.slice xA xn xc,.slice xB xm xd,.slice xC xp xq] 26)).alloc (.cells #[.slice (some ⟨w.heap.size+1+1,0,none⟩) 1 1,.slice none 0 0,.slice none 0 0,.slice none 0 0] 36)) (w.heap.size+1+1+1) 36 #[.slice (some ⟨w.heap.size+1+1,0,none⟩) 1 1,.slice none 0 0,.slice none 0 0,.slice none 0 0]:=Blk.newAt _ _ _ (by simp);have hsz:((((w.alloc (.cells #[.int .i64 x.prec,.int .i64 x.order,.slice xA xn xc,.slice xB xm xd,.slice xC xp xq,.slice xL xln xlc] 29)).alloc (.cells #[.slice none 0 0,.slice none 0 0,.slice none 0 0,.slice none 0 0] 36)).alloc (.cells #[.slice xA xn xc,.slice xB xm xd,.slice xC xp xq] 26)).alloc (.cells #[.slice (some ⟨w.heap.size+1+1,0,none⟩) 1 1,.slice none 0 0,.slice none 0 0,.slice none 0 0] 36)).heap.size=w.heap.size+4:=by simp
 have hsz1:=Ys hsz;have hsz2:=Ys hsz.symm;have hb0:=zAA (zAA (zAA hW1 hW2) hW3) hW4;have HSF:=Zh (zeL zBs zm5 (show RF w [.slice xA xn xc,.slice xB xm xd,.slice xC xp xq] x.start from ⟨xA,xn,xc,xB,xm,xd,xC,xp,xq,rfl,h1,h2,h3⟩));have hxl:xln<=1000:=by have:=h4.len;omega
 have m1:=h4.cap;have m2:=h4.max;have HL4:=Zh h4.len;have HX4:=Zh (zm3 h4);have HTK:Hid (TrI w.heap.size (w.heap.size+1+1) (w.heap.size+1+1+1) (w.heap.size+1) w ((((w.alloc (.cells #[.int .i64 x.prec,.int .i64 x.order,.slice xA xn xc,.slice xB xm xd,.slice xC xp xq,.slice xL xln xlc] 29)).alloc (.cells #[.slice none 0 0,.slice none 0 0,.slice none 0 0,.slice none 0 0] 36)).alloc (.cells #[.slice xA xn xc,.slice xB xm xd,.slice xC xp xq] 26)).alloc (.cells #[.slice (some ⟨w.heap.size+1+1,0,none⟩) 1 1,.slice none 0 0,.slice none 0 0,.slice none 0 0] 36)) x 0 (.slice (some ⟨w.heap.size+1+1,0,none⟩) 1 1) (.slice none 0 0) (.slice none 0 0) (.slice none 0 0) [[.slice xA xn xc,.slice xB xm xd,.slice xC xp xq]] [] [] []):=by
  refine ⟨⟨zmc.one (by omega) (Ya _) kf4 rfl (HSF.out.move (fun b hb=>hb0.block b hb)),zmc.nil _ _ _ (by omega) _,zmc.nil _ _ _ (by omega) _,zmc.nil _ _ _ (by omega) _,Dj.nil',Dj.nil',Dj.nil',Dj.nil,Dj.nil,Dj.nil⟩,⟨kt4,by omega,zm1 ?_⟩,⟨kr4,by omega,zm1 ?_⟩,hb0,by omega⟩
  all_goals omega
 obtain ⟨p0,p1,p2,p3,p4,p5⟩:=kx2.cells6;obtain ⟨q0,q1,q2,q3,q4,q5⟩:=kx4.cells6;clear h1 h2 h3 h4 hW1 hW2 hW3 hW4 kx2 kx4 kr4 kf4 kt4 hsz hb0;refine calls_of_wp hfi hfb ?_;simp only [hfn,List.size_toArray,List.length_cons,List.length_nil,Nat.reduceAdd,Nat.reduceSub,Array.replicate_succ,Array.replicate_zero,List.push_toArray,List.append_toArray,List.nil_append,List.cons_append];unfold zqT;simp only [Tryz.f9,Option.getD_some,rp,rpO,List.map_toArray,List.map_cons,List.map_nil];go_wp2_with fail
 clear p0 p1 p2 p3 p4 p5 q0 q1 q2 q3 q4 q5;generalize ((((w.alloc (.cells #[.int .i64 x.prec,.int .i64 x.order,.slice xA xn xc,.slice xB xm xd,.slice xC xp xq,.slice xL xln xlc] 29)).alloc (.cells #[.slice none 0 0,.slice none 0 0,.slice none 0 0,.slice none 0 0] 36)).alloc (.cells #[.slice xA xn xc,.slice xB xm xd,.slice xC xp xq] 26)).alloc (.cells #[.slice (some ⟨w.heap.size+1+1,0,none⟩) 1 1,.slice none 0 0,.slice none 0 0,.slice none 0 0] 36))=W0 at *
 go_loopw [13] (fun i wr=>∃ (k:Nat) (F V T U:Value) (fF fV fT fS:List (List Value)),k<=xln/\i=.int .i64 k/\Hid (TrI w.heap.size (w.heap.size+1+1) (w.heap.size+1+1+1) (w.heap.size+1) w wr x k F V T U fF fV fT fS)) (fun i _=>xln - (intOf i).toNat)
 case atStart=>exact ⟨0,_,_,_,_,_,_,_,_,by omega,rfl,HTK⟩
 case round=>
  clear HTK;obtain ⟨k,F,V,T,U,fF,fV,fT,fS,hk,rfl,HI⟩:=hrel;have hwr:=HI.out.s;by_cases hlt:k<xln
  ·obtain ⟨b,off,y,us,rfl,hbl,hGb,hd,hu8,hc,hR⟩:=zOe HX4.out (by omega) zVT hlt
   have HT:Hid (trK x (k+1)=⟨(trK x k).frames++[y.e],(trK x k).v++[y.v],(trK x k).tubes++[y.tube],(trK x k).steps++[y.h]⟩):=zmw hd;obtain ⟨yH,yhn,yhc,yT,ytn,ytc,yA,yn,yc,yB,ym,yd,yC,yp,yq,yV,yvn,yvc,rfl,-⟩:=hR.here (Ya _);have z0:=(HI.out.b.cell (p:=⟨b,off+k*8,none⟩) hbl).trans (hc 0 _ rfl);have z1:=(HI.out.b.cell (p:=⟨b,off+k*8+1,none⟩) hbl).trans (hc 1 _ rfl);have z2:=(HI.out.b.cell (p:=⟨b,off+k*8+2,none⟩) hbl).trans (hc 2 _ rfl);have z3:=(HI.out.b.cell (p:=⟨b,off+k*8+3,none⟩) hbl).trans (hc 3 _ rfl);have z4:=(HI.out.b.cell (p:=⟨b,off+k*8+4,none⟩) hbl).trans (hc 4 _ rfl);have z5:=(HI.out.b.cell (p:=⟨b,off+k*8+5,none⟩) hbl).trans (hc 5 _ rfl);have z6:=(HI.out.b.cell (p:=⟨b,off+k*8+6,none⟩) hbl).trans (hc 6 _ rfl);have z7:=(HI.out.b.cell (p:=⟨b,off+k*8+7,none⟩) hbl).trans (hc 7 _ rfl);have HRE:=Zh ((zmY hR).1);have HRV:=Zh ((zmY hR).2.1);have HRT:=Zh ((zmY hR).2.2.1);have HRS:=Zh ((zmY hR).2.2.2);have hb1:=zAE wr (.cells #[.bool y.h.neg,.slice yH yhn yhc,.int .i64 y.h.e,.slice yT ytn ytc,.slice yA yn yc,.slice yB ym yd,.slice yC yp yq,.slice yV yvn yvc] 86);have hz1:(wr.alloc (.cells #[.bool y.h.neg,.slice yH yhn yhc,.int .i64 y.h.e,.slice yT ytn ytc,.slice yA yn yc,.slice yB ym yd,.slice yC yp yq,.slice yV yvn yvc] 86)).heap.size=wr.heap.size+1:=by simp
   have hz2:=Ys hz1;have hz3:=Ys hz1.symm;have HKL:=Zh (HI.out.tk.new (by omega) 86 #[.bool y.h.neg,.slice yH yhn yhc,.int .i64 y.h.e,.slice yT ytn ytc,.slice yA yn yc,.slice yB ym yd,.slice yC yp yq,.slice yV yvn yvc]);have HLO:=Zh hb1;clear hc hu8 hd hR hb1 hz1;go_wp2_with fail
   clear z0 z1 z2 z3 z4 z5 z6 z7;generalize wr.alloc (.cells #[.bool y.h.neg,.slice yH yhn yhc,.int .i64 y.h.e,.slice yT ytn ytc,.slice yA yn yc,.slice yB ym yd,.slice yC yp yq,.slice yV yvn yvc] 86)=W1 at *;have hlF:fF.length<=2000:=by
    have h1:=HI.out.tk.f.len;have h2:(trK x k).frames.length<=k+1:=(by unfold trK;simp only [List.length_cons,Xf,Yr];omega);omega
   have hlV:fV.length<=2000:=by
    have h1:=HI.out.tk.v.len;have h2:(trK x k).v.length<=k:=(by unfold trK;simp only [List.length_cons,Xf,Yr];omega);omega
   have hlT:fT.length<=2000:=by
    have h1:=HI.out.tk.t.len;have h2:(trK x k).tubes.length<=k:=(by unfold trK;simp only [List.length_cons,Xf,Yr];omega);omega
   have hlS:fS.length<=2000:=by
    have h1:=HI.out.tk.s.len;have h2:(trK x k).steps.length<=k:=(by unfold trK;simp only [List.length_cons,Xf,Yr];omega);omega
   have HS0:Hid (StT (w.heap.size+1+1) (w.heap.size+1+1+1) (w.heap.size+1) wr.heap.size w W1.drew #[.bool y.h.neg,.slice yH yhn yhc,.int .i64 y.h.e,.slice yT ytn ytc,.slice yA yn yc,.slice yB ym yd,.slice yC yp yq,.slice yV yvn yvc] F V T U F V T U fF fV fT fS (trK x k)):=StT.start HI.out HLO.out HKL.out;refine zmj (fun j=>(25::[26,27,28,29,30,31]).contains j) (fun W=>Blk W (w.heap.size+1+1+1) 36 #[F,V,T,U]/\Blk W wr.heap.size 86 #[.bool y.h.neg,.slice yH yhn yhc,.int .i64 y.h.e,.slice yT ytn ytc,.slice yA yn yc,.slice yB ym yd,.slice yC yp yq,.slice yV yvn yvc]) (by kernel_rfl) ?_;have hwle:wr.heap.size<W1.drew.heap.size:=by show _<W1.heap.size;omega
   generalize W1.drew=Wd at *;have hH:=HS0.out.S;have HCE:=Zh (fun (W:World) (h:Blk W (w.heap.size+1+1+1) 36 #[F,V,T,U]/\Blk W wr.heap.size 86 #[.bool y.h.neg,.slice yH yhn yhc,.int .i64 y.h.e,.slice yT ytn ytc,.slice yA yn yc,.slice yB ym yd,.slice yC yp yq,.slice yV yvn yvc])=>And.intro h.1.cells4 h.2.cells8);refine tkn 0 [] HCE.out hH ?_;refine tkn 1 [] HCE.out hH ?_;refine tkn 2 [] HCE.out hH ?_;refine tkn 3 [] HCE.out hH ?_;refine tkn 6 [] HCE.out hH ?_;refine tkn 7 [] HCE.out hH ?_;refine tkn 8 [23,17,11,10,9] HCE.out hH ?_;refine tkn 9 [23,17,11,10] HCE.out hH ?_;refine tkn 12 [] HCE.out hH ?_;refine tkn 13 [] HCE.out hH ?_;refine tkn 14 [23,17,16,15] HCE.out hH ?_;refine tkn 15 [23,17,16] HCE.out hH ?_;refine tkn 18 [] HCE.out hH ?_;refine tkn 19 [] HCE.out hH ?_;refine tkn 20 [23,22,21] HCE.out hH ?_;refine tkn 21 [23,22] HCE.out hH ?_;simp only [Act.put,sT,sZ,sS];generalize hX:zmZ _ _ _ _ _ _=X;obtain ⟨ac,hac⟩:∃ac:Value->Value->Value->Value->Value->Value->Value->Value->Value->Act,ac=fun v21 v22 v27 v28 v33 v34 v39 v40 v41=>⟨#[.agg #[.int .i64 x.prec,.int .i64 x.order,.slice xA xn xc,.slice xB xm xd,.slice xC xp xq,.slice (some ⟨b,off,none⟩) xln xlc],.pointer (some ⟨w.heap.size,0,none⟩),.pointer (some ⟨w.heap.size+1,0,none⟩),.pointer (some ⟨w.heap.size+1+1+1,0,none⟩),undef,.pointer (some ⟨wr.heap.size,0,none⟩),.pointer (some ⟨w.heap.size,2,none⟩),.agg #[.slice xA xn xc,.slice xB xm xd,.slice xC xp xq],.slice (some ⟨w.heap.size+1+1,0,none⟩) 1 1,.agg #[.slice (some ⟨w.heap.size+1+1,0,none⟩) 1 1,.slice none 0 0,.slice none 0 0,.slice none 0 0],.pointer (some ⟨w.heap.size,5,none⟩),.slice (some ⟨b,off,none⟩) xln xlc,.int .i64 (xln:Int),.int .i64 (k:Int),.bool true,.pointer (some ⟨b,off+k*8,none⟩),.agg #[.bool y.h.neg,.slice yH yhn yhc,.int .i64 y.h.e,.slice yT ytn ytc,.slice yA yn yc,.slice yB ym yd,.slice yC yp yq,.slice yV yvn yvc],.pointer (some ⟨w.heap.size+1+1+1,0,none⟩),F,.pointer (some ⟨wr.heap.size,4,none⟩),.agg #[.slice yA yn yc,.slice yB ym yd,.slice yC yp yq],v21,v22,.pointer (some ⟨w.heap.size+1+1+1,1,none⟩),V,.pointer (some ⟨wr.heap.size,7,none⟩),.slice yV yvn yvc,v27,v28,.pointer (some ⟨w.heap.size+1+1+1,2,none⟩),T,.pointer (some ⟨wr.heap.size,3,none⟩),.slice yT ytn ytc,v33,v34,.pointer (some ⟨w.heap.size+1+1+1,3,none⟩),U,.pointer (some ⟨wr.heap.size,0,none⟩),.agg #[.bool y.h.neg,.slice yH yhn yhc,.int .i64 y.h.e],v39,v40,v41,u42,u43,u44,u45,undef],[]⟩:=⟨_,rfl⟩
   have h4:∀ (W:World) (F1:Value) (V1:Value) (T1:Value) (U1:Value) (x0:Value) (x1:Value) (x2:Value) (x3:Value) (hst:StT (w.heap.size+1+1) (w.heap.size+1+1+1) (w.heap.size+1) wr.heap.size w W #[.bool y.h.neg,.slice yH yhn yhc,.int .i64 y.h.e,.slice yT ytn ytc,.slice yA yn yc,.slice yB ym yd,.slice yC yp yq,.slice yV yvn yvc] F V T U F1 V1 T1 U1 (fF++[[.slice yA yn yc,.slice yB ym yd,.slice yC yp yq]]) (fV++[[.slice yV yvn yvc]]) (fT++[[.slice yT ytn ytc]]) (fS++[[.bool y.h.neg,.slice yH yhn yhc,.int .i64 y.h.e]]) (((((trK x k).adF y.e).adV y.v).adT y.tube).adS y.h)),X 7 (lsB 33554431) (ac (x0) (F1) (x1) (V1) (x2) (T1) (x3) (U1) (.pointer (some ⟨w.heap.size+1+1+1,0,none⟩))) W:=by
    intro W F1 V1 T1 U1 x0 x1 x2 x3 hst;rw [<- hX];simp only [hac];obtain ⟨A1,n1,c1,rfl⟩:=zED hst.tk.f.own;obtain ⟨A2,n2,c2,rfl⟩:=zED hst.tk.v.own;obtain ⟨A3,n3,c3,rfl⟩:=zED hst.tk.t.own;obtain ⟨A4,n4,c4,rfl⟩:=zED hst.tk.s.own;have k0:=hst.t.blk;have k1:=k0.set_ 0 (.slice A1 n1 c1);have k2:=k1.set_ 1 (.slice A2 n2 c2);have k3:=k2.set_ 2 (.slice A3 n3 c3);refine rdn 25 (fun K hK=>?_);have f0:=k0.frozen 0;obtain ⟨c0,c1,c2,c3⟩:=k0.cells4
    go_simp
    clear f0 c0 c1 c2 c3;refine hK.out _ _ (fun h=>absurd h (by decide)) ?_;clear hK K;refine rdn 26 (fun K hK=>?_)
    go_simp
    refine hK.out _ _ (fun h=>absurd h (by decide)) ?_;clear hK K;refine rdn 27 (fun K hK=>?_);have f0:=k1.frozen 1;obtain ⟨c0,c1,c2,c3⟩:=k1.cells4
    go_simp
    clear f0 c0 c1 c2 c3;refine hK.out _ _ (fun h=>absurd h (by decide)) ?_;clear hK K;refine rdn 28 (fun K hK=>?_)
    go_simp
    refine hK.out _ _ (fun h=>absurd h (by decide)) ?_;clear hK K;refine rdn 29 (fun K hK=>?_);have f0:=k2.frozen 2;obtain ⟨c0,c1,c2,c3⟩:=k2.cells4
    go_simp
    clear f0 c0 c1 c2 c3;refine hK.out _ _ (fun h=>absurd h (by decide)) ?_;clear hK K;refine rdn 30 (fun K hK=>?_)
    go_simp
    refine hK.out _ _ (fun h=>absurd h (by decide)) ?_;clear hK K;refine rdn 31 (fun K hK=>?_);have f0:=k3.frozen 3;obtain ⟨c0,c1,c2,c3⟩:=k3.cells4
    go_simp
    clear f0 c0 c1 c2 c3;refine hK.out _ _ (fun h=>absurd h (by decide)) ?_;clear hK K;refine zmi (by kernel_rfl) ?_ _;have HF:=Zh (hst.fin (HT.out.trans rfl) (by omega));clear k0 k1 k2 k3 hst hX;go_wp2_with fail
    go_roundw
    case rel=>exact ⟨k+1,_,_,_,_,_,_,_,_,by omega,by go_num,HF⟩
    case measure=>simp [intOf];omega
   have h33:∀ (W:World) (F1:Value) (V1:Value) (T1:Value) (x0:Value) (x1:Value) (x2:Value) (g3:Nat) (hst:StT (w.heap.size+1+1) (w.heap.size+1+1+1) (w.heap.size+1) wr.heap.size w W #[.bool y.h.neg,.slice yH yhn yhc,.int .i64 y.h.e,.slice yT ytn ytc,.slice yA yn yc,.slice yB ym yd,.slice yC yp yq,.slice yV yvn yvc] F V T U F1 V1 T1 U (fF++[[.slice yA yn yc,.slice yB ym yd,.slice yC yp yq]]) (fV++[[.slice yV yvn yvc]]) (fT++[[.slice yT ytn ytc]]) fS ((((trK x k).adF y.e).adV y.v).adT y.tube)) (hg3:Bt w.heap.size W g3 41 #[.bool y.h.neg,.slice yH yhn yhc,.int .i64 y.h.e] F1 V1 T1 U),X 8 (lsB 25165823) (ac (x0) (F1) (x1) (V1) (x2) (T1) (.slice (some ⟨g3,0,none⟩) 1 1) (u40) (.pointer (some ⟨w.heap.size+1+1+1,0,none⟩))) W:=by
    intro W F1 V1 T1 x0 x1 x2 g3 hst hg3;rw [<- hX];simp only [hac];refine rdn 23 (fun K hK=>?_);refine zmW rfl _ _ 22 rfl 41 3 40 _ zm0 rfl (by omega) (by omega) Tryz.underlying22 (w.heap.size+1+1) U fS rfl hst.tk.s.own ⟨g3,0,none⟩ 1 [.bool y.h.neg,.slice yH yhn yhc,.int .i64 y.h.e] rfl rfl ?c1 ?c2 ?c3 hst.s ?_
    case c1=>
     intro j u hj;rw [zEM,Blk.cell hg3.blk]
     simpa using hj
    case c2=>intro u hu;simp at hu;rcases hu with rfl | rfl | rfl <;> rfl
    case c3=>omega
    intro U1 W1 o2 o3 o5;have hst1:=hst.addS (y:=y.h) o2 o3 o5 rfl (HRS.out.move (fun b hb=>hst.b.block b hb));refine hK.out _ _ (fun _=>hst1.S) ?_;simp only [Act.put,sT,sZ,sS];exact ofX hX (by kernel_rfl) (by kernel_rfl) (by rw [hac]) (h4 _ F1 V1 T1 U1 _ _ _ _ hst1)
   have h3:∀ (W:World) (F1:Value) (V1:Value) (T1:Value) (x0:Value) (x1:Value) (x2:Value) (hst:StT (w.heap.size+1+1) (w.heap.size+1+1+1) (w.heap.size+1) wr.heap.size w W #[.bool y.h.neg,.slice yH yhn yhc,.int .i64 y.h.e,.slice yT ytn ytc,.slice yA yn yc,.slice yB ym yd,.slice yC yp yq,.slice yV yvn yvc] F V T U F1 V1 T1 U (fF++[[.slice yA yn yc,.slice yB ym yd,.slice yC yp yq]]) (fV++[[.slice yV yvn yvc]]) (fT++[[.slice yT ytn ytc]]) fS ((((trK x k).adF y.e).adV y.v).adT y.tube)),X 9 (lsB 20971519) (ac (x0) (F1) (x1) (V1) (x2) (T1) (u39) (u40) (.pointer (some ⟨w.heap.size+1+1+1,0,none⟩))) W:=by
    intro W F1 V1 T1 x0 x1 x2 hst;rw [<- hX];simp only [hac];refine rdn 22 (fun K hK=>?_)
    go_simp
    refine hK.out _ _ (fun _=>(hst.alloc _).S) ?_;exact ofX hX (by kernel_rfl) (by kernel_rfl) (by rw [hac]) (h33 _ F1 V1 T1 _ _ _ _ (hst.alloc _) (hst.tk.new hst.lo _ _))
   have h223:∀ (W:World) (F1:Value) (V1:Value) (x0:Value) (x1:Value) (g2:Nat) (g3:Nat) (hst:StT (w.heap.size+1+1) (w.heap.size+1+1+1) (w.heap.size+1) wr.heap.size w W #[.bool y.h.neg,.slice yH yhn yhc,.int .i64 y.h.e,.slice yT ytn ytc,.slice yA yn yc,.slice yB ym yd,.slice yC yp yq,.slice yV yvn yvc] F V T U F1 V1 T U (fF++[[.slice yA yn yc,.slice yB ym yd,.slice yC yp yq]]) (fV++[[.slice yV yvn yvc]]) fT fS (((trK x k).adF y.e).adV y.v)) (hg2:Bt w.heap.size W g2 24 #[.slice yT ytn ytc] F1 V1 T U) (hg3:Bt w.heap.size W g3 41 #[.bool y.h.neg,.slice yH yhn yhc,.int .i64 y.h.e] F1 V1 T U),X 9 (lsB 25034751) (ac (x0) (F1) (x1) (V1) (.slice (some ⟨g2,0,none⟩) 1 1) (u34) (.slice (some ⟨g3,0,none⟩) 1 1) (u40) (.pointer (some ⟨w.heap.size+1+1+1,0,none⟩))) W:=by
    intro W F1 V1 x0 x1 g2 g3 hst hg2 hg3;rw [<- hX];simp only [hac];refine rdn 17 (fun K hK=>?_);refine zmW rfl _ _ 34 rfl 24 1 24 _ zmo rfl (by omega) (by omega) Tryz.underlying34 (w.heap.size+1+1) T fT rfl hst.tk.t.own ⟨g2,0,none⟩ 1 [.slice yT ytn ytc] rfl rfl ?c1 ?c2 ?c3 hst.s ?_
    case c1=>
     intro j u hj;rw [zEM,Blk.cell hg2.blk]
     simpa using hj
    case c2=>intro u hu;simp at hu;subst hu;rfl
    case c3=>omega
    intro T1 W1 o2 o3 o5;have hst1:=hst.addT (y:=y.tube) o2 o3 o5 rfl (HRT.out.move (fun b hb=>hst.b.block b hb));refine hK.out _ _ (fun _=>hst1.S) ?_;simp only [Act.put,sT,sZ,sS];exact ofX hX (by kernel_rfl) (by kernel_rfl) (by rw [hac]) (h33 _ F1 V1 T1 _ _ _ _ hst1 (hg3.addT o3 o5))
   have h22:∀ (W:World) (F1:Value) (V1:Value) (x0:Value) (x1:Value) (g2:Nat) (hst:StT (w.heap.size+1+1) (w.heap.size+1+1+1) (w.heap.size+1) wr.heap.size w W #[.bool y.h.neg,.slice yH yhn yhc,.int .i64 y.h.e,.slice yT ytn ytc,.slice yA yn yc,.slice yB ym yd,.slice yC yp yq,.slice yV yvn yvc] F V T U F1 V1 T U (fF++[[.slice yA yn yc,.slice yB ym yd,.slice yC yp yq]]) (fV++[[.slice yV yvn yvc]]) fT fS (((trK x k).adF y.e).adV y.v)) (hg2:Bt w.heap.size W g2 24 #[.slice yT ytn ytc] F1 V1 T U),X 10 (lsB 20840447) (ac (x0) (F1) (x1) (V1) (.slice (some ⟨g2,0,none⟩) 1 1) (u34) (u39) (u40) (.pointer (some ⟨w.heap.size+1+1+1,0,none⟩))) W:=by
    intro W F1 V1 x0 x1 g2 hst hg2;rw [<- hX];simp only [hac];refine zmV (rs:=[17,22]) (by kernel_rfl) (by simp) ?_;refine zmT.cons (o:=⟨_,_,_,_,_,_⟩) rfl (fun K hK=>?_) ?_
    ·refine zmW rfl _ _ 34 rfl 24 1 24 _ zmo rfl (by omega) (by omega) Tryz.underlying34 (w.heap.size+1+1) T fT rfl hst.tk.t.own ⟨g2,0,none⟩ 1 [.slice yT ytn ytc] rfl rfl ?c1 ?c2 ?c3 hst.s ?_
     case c1=>
      intro j u hj;rw [zEM,Blk.cell hg2.blk]
      simpa using hj
     case c2=>intro u hu;simp at hu;subst hu;rfl
     case c3=>omega
     intro T1 W1 o2 o3 o5;have hst1:=hst.addT (y:=y.tube) o2 o3 o5 rfl (HRT.out.move (fun b hb=>hst.b.block b hb));refine hK.out _ _ (fun _=>hst1.S) ?_;simp only [Act.put,sT,sZ,sS];exact ofX hX (by kernel_rfl) (by kernel_rfl) (by rw [hac]) (h3 _ F1 V1 T1 _ _ _ hst1)
    refine zmT.cons (o:=⟨_,_,_,_,_,_⟩) rfl (fun K hK=>?_) zmT.nil
    go_simp
    refine hK.out _ _ (fun _=>(hst.alloc _).S) ?_;exact ofX hX (by kernel_rfl) (by kernel_rfl) (by rw [hac]) (h223 _ F1 V1 _ _ _ _ (hst.alloc _) (hg2.alloc _) (hst.tk.new hst.lo _ _))
   have h23:∀ (W:World) (F1:Value) (V1:Value) (x0:Value) (x1:Value) (g3:Nat) (hst:StT (w.heap.size+1+1) (w.heap.size+1+1+1) (w.heap.size+1) wr.heap.size w W #[.bool y.h.neg,.slice yH yhn yhc,.int .i64 y.h.e,.slice yT ytn ytc,.slice yA yn yc,.slice yB ym yd,.slice yC yp yq,.slice yV yvn yvc] F V T U F1 V1 T U (fF++[[.slice yA yn yc,.slice yB ym yd,.slice yC yp yq]]) (fV++[[.slice yV yvn yvc]]) fT fS (((trK x k).adF y.e).adV y.v)) (hg3:Bt w.heap.size W g3 41 #[.bool y.h.neg,.slice yH yhn yhc,.int .i64 y.h.e] F1 V1 T U),X 10 (lsB 24969215) (ac (x0) (F1) (x1) (V1) (u33) (u34) (.slice (some ⟨g3,0,none⟩) 1 1) (u40) (.pointer (some ⟨w.heap.size+1+1+1,0,none⟩))) W:=by
    intro W F1 V1 x0 x1 g3 hst hg3;rw [<- hX];simp only [hac];refine rdn 16 (fun K hK=>?_)
    go_simp
    refine hK.out _ _ (fun _=>(hst.alloc _).S) ?_;exact ofX hX (by kernel_rfl) (by kernel_rfl) (by rw [hac]) (h223 _ F1 V1 _ _ _ _ (hst.alloc _) (hst.tk.new hst.lo _ _) (hg3.alloc _))
   have h2:∀ (W:World) (F1:Value) (V1:Value) (x0:Value) (x1:Value) (hst:StT (w.heap.size+1+1) (w.heap.size+1+1+1) (w.heap.size+1) wr.heap.size w W #[.bool y.h.neg,.slice yH yhn yhc,.int .i64 y.h.e,.slice yT ytn ytc,.slice yA yn yc,.slice yB ym yd,.slice yC yp yq,.slice yV yvn yvc] F V T U F1 V1 T U (fF++[[.slice yA yn yc,.slice yB ym yd,.slice yC yp yq]]) (fV++[[.slice yV yvn yvc]]) fT fS (((trK x k).adF y.e).adV y.v)),X 11 (lsB 20774911) (ac (x0) (F1) (x1) (V1) (u33) (u34) (u39) (u40) (.pointer (some ⟨w.heap.size+1+1+1,0,none⟩))) W:=by
    intro W F1 V1 x0 x1 hst;rw [<- hX];simp only [hac];refine zmV (rs:=[16,22]) (by kernel_rfl) (by simp) ?_;refine zmT.cons (o:=⟨_,_,_,_,_,_⟩) rfl (fun K hK=>?_) ?_
    ·go_simp
     refine hK.out _ _ (fun _=>(hst.alloc _).S) ?_;exact ofX hX (by kernel_rfl) (by kernel_rfl) (by rw [hac]) (h22 _ F1 V1 _ _ _ (hst.alloc _) (hst.tk.new hst.lo _ _))
    refine zmT.cons (o:=⟨_,_,_,_,_,_⟩) rfl (fun K hK=>?_) zmT.nil
    go_simp
    refine hK.out _ _ (fun _=>(hst.alloc _).S) ?_;exact ofX hX (by kernel_rfl) (by kernel_rfl) (by rw [hac]) (h23 _ F1 V1 _ _ _ (hst.alloc _) (hst.tk.new hst.lo _ _))
   have h1123:∀ (W:World) (F1:Value) (x0:Value) (g1:Nat) (g2:Nat) (g3:Nat) (hst:StT (w.heap.size+1+1) (w.heap.size+1+1+1) (w.heap.size+1) wr.heap.size w W #[.bool y.h.neg,.slice yH yhn yhc,.int .i64 y.h.e,.slice yT ytn ytc,.slice yA yn yc,.slice yB ym yd,.slice yC yp yq,.slice yV yvn yvc] F V T U F1 V T U (fF++[[.slice yA yn yc,.slice yB ym yd,.slice yC yp yq]]) fV fT fS ((trK x k).adF y.e)) (hg1:Bt w.heap.size W g1 23 #[.slice yV yvn yvc] F1 V T U) (hg2:Bt w.heap.size W g2 24 #[.slice yT ytn ytc] F1 V T U) (hg3:Bt w.heap.size W g3 41 #[.bool y.h.neg,.slice yH yhn yhc,.int .i64 y.h.e] F1 V T U),X 10 (lsB 25032703) (ac (x0) (F1) (.slice (some ⟨g1,0,none⟩) 1 1) (u28) (.slice (some ⟨g2,0,none⟩) 1 1) (u34) (.slice (some ⟨g3,0,none⟩) 1 1) (u40) (.pointer (some ⟨w.heap.size+1+1+1,0,none⟩))) W:=by
    intro W F1 x0 g1 g2 g3 hst hg1 hg2 hg3;rw [<- hX];simp only [hac];refine rdn 11 (fun K hK=>?_);refine zmW rfl _ _ 33 rfl 23 1 24 _ zmp rfl (by omega) (by omega) Tryz.underlying33 (w.heap.size+1+1) V fV rfl hst.tk.v.own ⟨g1,0,none⟩ 1 [.slice yV yvn yvc] rfl rfl ?c1 ?c2 ?c3 hst.s ?_
    case c1=>
     intro j u hj;rw [zEM,Blk.cell hg1.blk]
     simpa using hj
    case c2=>intro u hu;simp at hu;subst hu;rfl
    case c3=>omega
    intro V1 W1 o2 o3 o5;have hst1:=hst.addV (y:=y.v) o2 o3 o5 rfl (HRV.out.move (fun b hb=>hst.b.block b hb));refine hK.out _ _ (fun _=>hst1.S) ?_;simp only [Act.put,sT,sZ,sS];exact ofX hX (by kernel_rfl) (by kernel_rfl) (by rw [hac]) (h223 _ F1 V1 _ _ _ _ hst1 (hg2.addV o3 o5) (hg3.addV o3 o5))
   have h112:∀ (W:World) (F1:Value) (x0:Value) (g1:Nat) (g2:Nat) (hst:StT (w.heap.size+1+1) (w.heap.size+1+1+1) (w.heap.size+1) wr.heap.size w W #[.bool y.h.neg,.slice yH yhn yhc,.int .i64 y.h.e,.slice yT ytn ytc,.slice yA yn yc,.slice yB ym yd,.slice yC yp yq,.slice yV yvn yvc] F V T U F1 V T U (fF++[[.slice yA yn yc,.slice yB ym yd,.slice yC yp yq]]) fV fT fS ((trK x k).adF y.e)) (hg1:Bt w.heap.size W g1 23 #[.slice yV yvn yvc] F1 V T U) (hg2:Bt w.heap.size W g2 24 #[.slice yT ytn ytc] F1 V T U),X 11 (lsB 20838399) (ac (x0) (F1) (.slice (some ⟨g1,0,none⟩) 1 1) (u28) (.slice (some ⟨g2,0,none⟩) 1 1) (u34) (u39) (u40) (.pointer (some ⟨w.heap.size+1+1+1,0,none⟩))) W:=by
    intro W F1 x0 g1 g2 hst hg1 hg2;rw [<- hX];simp only [hac];refine zmV (rs:=[11,22]) (by kernel_rfl) (by simp) ?_;refine zmT.cons (o:=⟨_,_,_,_,_,_⟩) rfl (fun K hK=>?_) ?_
    ·refine zmW rfl _ _ 33 rfl 23 1 24 _ zmp rfl (by omega) (by omega) Tryz.underlying33 (w.heap.size+1+1) V fV rfl hst.tk.v.own ⟨g1,0,none⟩ 1 [.slice yV yvn yvc] rfl rfl ?c1 ?c2 ?c3 hst.s ?_
     case c1=>
      intro j u hj;rw [zEM,Blk.cell hg1.blk]
      simpa using hj
     case c2=>intro u hu;simp at hu;subst hu;rfl
     case c3=>omega
     intro V1 W1 o2 o3 o5;have hst1:=hst.addV (y:=y.v) o2 o3 o5 rfl (HRV.out.move (fun b hb=>hst.b.block b hb));refine hK.out _ _ (fun _=>hst1.S) ?_;simp only [Act.put,sT,sZ,sS];exact ofX hX (by kernel_rfl) (by kernel_rfl) (by rw [hac]) (h22 _ F1 V1 _ _ _ hst1 (hg2.addV o3 o5))
    refine zmT.cons (o:=⟨_,_,_,_,_,_⟩) rfl (fun K hK=>?_) zmT.nil
    go_simp
    refine hK.out _ _ (fun _=>(hst.alloc _).S) ?_;exact ofX hX (by kernel_rfl) (by kernel_rfl) (by rw [hac]) (h1123 _ F1 _ _ _ _ (hst.alloc _) (hg1.alloc _) (hg2.alloc _) (hst.tk.new hst.lo _ _))
   have h113:∀ (W:World) (F1:Value) (x0:Value) (g1:Nat) (g3:Nat) (hst:StT (w.heap.size+1+1) (w.heap.size+1+1+1) (w.heap.size+1) wr.heap.size w W #[.bool y.h.neg,.slice yH yhn yhc,.int .i64 y.h.e,.slice yT ytn ytc,.slice yA yn yc,.slice yB ym yd,.slice yC yp yq,.slice yV yvn yvc] F V T U F1 V T U (fF++[[.slice yA yn yc,.slice yB ym yd,.slice yC yp yq]]) fV fT fS ((trK x k).adF y.e)) (hg1:Bt w.heap.size W g1 23 #[.slice yV yvn yvc] F1 V T U) (hg3:Bt w.heap.size W g3 41 #[.bool y.h.neg,.slice yH yhn yhc,.int .i64 y.h.e] F1 V T U),X 11 (lsB 24967167) (ac (x0) (F1) (.slice (some ⟨g1,0,none⟩) 1 1) (u28) (u33) (u34) (.slice (some ⟨g3,0,none⟩) 1 1) (u40) (.pointer (some ⟨w.heap.size+1+1+1,0,none⟩))) W:=by
    intro W F1 x0 g1 g3 hst hg1 hg3;rw [<- hX];simp only [hac];refine zmV (rs:=[11,16]) (by kernel_rfl) (by simp) ?_;refine zmT.cons (o:=⟨_,_,_,_,_,_⟩) rfl (fun K hK=>?_) ?_
    ·refine zmW rfl _ _ 33 rfl 23 1 24 _ zmp rfl (by omega) (by omega) Tryz.underlying33 (w.heap.size+1+1) V fV rfl hst.tk.v.own ⟨g1,0,none⟩ 1 [.slice yV yvn yvc] rfl rfl ?c1 ?c2 ?c3 hst.s ?_
     case c1=>
      intro j u hj;rw [zEM,Blk.cell hg1.blk]
      simpa using hj
     case c2=>intro u hu;simp at hu;subst hu;rfl
     case c3=>omega
     intro V1 W1 o2 o3 o5;have hst1:=hst.addV (y:=y.v) o2 o3 o5 rfl (HRV.out.move (fun b hb=>hst.b.block b hb));refine hK.out _ _ (fun _=>hst1.S) ?_;simp only [Act.put,sT,sZ,sS];exact ofX hX (by kernel_rfl) (by kernel_rfl) (by rw [hac]) (h23 _ F1 V1 _ _ _ hst1 (hg3.addV o3 o5))
    refine zmT.cons (o:=⟨_,_,_,_,_,_⟩) rfl (fun K hK=>?_) zmT.nil
    go_simp
    refine hK.out _ _ (fun _=>(hst.alloc _).S) ?_;exact ofX hX (by kernel_rfl) (by kernel_rfl) (by rw [hac]) (h1123 _ F1 _ _ _ _ (hst.alloc _) (hg1.alloc _) (hst.tk.new hst.lo _ _) (hg3.alloc _))
   have h123:∀ (W:World) (F1:Value) (x0:Value) (g2:Nat) (g3:Nat) (hst:StT (w.heap.size+1+1) (w.heap.size+1+1+1) (w.heap.size+1) wr.heap.size w W #[.bool y.h.neg,.slice yH yhn yhc,.int .i64 y.h.e,.slice yT ytn ytc,.slice yA yn yc,.slice yB ym yd,.slice yC yp yq,.slice yV yvn yvc] F V T U F1 V T U (fF++[[.slice yA yn yc,.slice yB ym yd,.slice yC yp yq]]) fV fT fS ((trK x k).adF y.e)) (hg2:Bt w.heap.size W g2 24 #[.slice yT ytn ytc] F1 V T U) (hg3:Bt w.heap.size W g3 41 #[.bool y.h.neg,.slice yH yhn yhc,.int .i64 y.h.e] F1 V T U),X 11 (lsB 25031679) (ac (x0) (F1) (u27) (u28) (.slice (some ⟨g2,0,none⟩) 1 1) (u34) (.slice (some ⟨g3,0,none⟩) 1 1) (u40) (.pointer (some ⟨w.heap.size+1+1+1,0,none⟩))) W:=by
    intro W F1 x0 g2 g3 hst hg2 hg3;rw [<- hX];simp only [hac];refine rdn 10 (fun K hK=>?_)
    go_simp
    refine hK.out _ _ (fun _=>(hst.alloc _).S) ?_;exact ofX hX (by kernel_rfl) (by kernel_rfl) (by rw [hac]) (h1123 _ F1 _ _ _ _ (hst.alloc _) (hst.tk.new hst.lo _ _) (hg2.alloc _) (hg3.alloc _))
   have h11:∀ (W:World) (F1:Value) (x0:Value) (g1:Nat) (hst:StT (w.heap.size+1+1) (w.heap.size+1+1+1) (w.heap.size+1) wr.heap.size w W #[.bool y.h.neg,.slice yH yhn yhc,.int .i64 y.h.e,.slice yT ytn ytc,.slice yA yn yc,.slice yB ym yd,.slice yC yp yq,.slice yV yvn yvc] F V T U F1 V T U (fF++[[.slice yA yn yc,.slice yB ym yd,.slice yC yp yq]]) fV fT fS ((trK x k).adF y.e)) (hg1:Bt w.heap.size W g1 23 #[.slice yV yvn yvc] F1 V T U),X 12 (lsB 20772863) (ac (x0) (F1) (.slice (some ⟨g1,0,none⟩) 1 1) (u28) (u33) (u34) (u39) (u40) (.pointer (some ⟨w.heap.size+1+1+1,0,none⟩))) W:=by
    intro W F1 x0 g1 hst hg1;rw [<- hX];simp only [hac];refine zmV (rs:=[11,16,22]) (by kernel_rfl) (by simp) ?_;refine zmT.cons (o:=⟨_,_,_,_,_,_⟩) rfl (fun K hK=>?_) ?_
    ·refine zmW rfl _ _ 33 rfl 23 1 24 _ zmp rfl (by omega) (by omega) Tryz.underlying33 (w.heap.size+1+1) V fV rfl hst.tk.v.own ⟨g1,0,none⟩ 1 [.slice yV yvn yvc] rfl rfl ?c1 ?c2 ?c3 hst.s ?_
     case c1=>
      intro j u hj;rw [zEM,Blk.cell hg1.blk]
      simpa using hj
     case c2=>intro u hu;simp at hu;subst hu;rfl
     case c3=>omega
     intro V1 W1 o2 o3 o5;have hst1:=hst.addV (y:=y.v) o2 o3 o5 rfl (HRV.out.move (fun b hb=>hst.b.block b hb));refine hK.out _ _ (fun _=>hst1.S) ?_;simp only [Act.put,sT,sZ,sS];exact ofX hX (by kernel_rfl) (by kernel_rfl) (by rw [hac]) (h2 _ F1 V1 _ _ hst1)
    refine zmT.cons (o:=⟨_,_,_,_,_,_⟩) rfl (fun K hK=>?_) ?_
    ·go_simp
     refine hK.out _ _ (fun _=>(hst.alloc _).S) ?_;exact ofX hX (by kernel_rfl) (by kernel_rfl) (by rw [hac]) (h112 _ F1 _ _ _ (hst.alloc _) (hg1.alloc _) (hst.tk.new hst.lo _ _))
    refine zmT.cons (o:=⟨_,_,_,_,_,_⟩) rfl (fun K hK=>?_) zmT.nil
    go_simp
    refine hK.out _ _ (fun _=>(hst.alloc _).S) ?_;exact ofX hX (by kernel_rfl) (by kernel_rfl) (by rw [hac]) (h113 _ F1 _ _ _ (hst.alloc _) (hg1.alloc _) (hst.tk.new hst.lo _ _))
   have h12:∀ (W:World) (F1:Value) (x0:Value) (g2:Nat) (hst:StT (w.heap.size+1+1) (w.heap.size+1+1+1) (w.heap.size+1) wr.heap.size w W #[.bool y.h.neg,.slice yH yhn yhc,.int .i64 y.h.e,.slice yT ytn ytc,.slice yA yn yc,.slice yB ym yd,.slice yC yp yq,.slice yV yvn yvc] F V T U F1 V T U (fF++[[.slice yA yn yc,.slice yB ym yd,.slice yC yp yq]]) fV fT fS ((trK x k).adF y.e)) (hg2:Bt w.heap.size W g2 24 #[.slice yT ytn ytc] F1 V T U),X 12 (lsB 20837375) (ac (x0) (F1) (u27) (u28) (.slice (some ⟨g2,0,none⟩) 1 1) (u34) (u39) (u40) (.pointer (some ⟨w.heap.size+1+1+1,0,none⟩))) W:=by
    intro W F1 x0 g2 hst hg2;rw [<- hX];simp only [hac];refine zmV (rs:=[10,22]) (by kernel_rfl) (by simp) ?_;refine zmT.cons (o:=⟨_,_,_,_,_,_⟩) rfl (fun K hK=>?_) ?_
    ·go_simp
     refine hK.out _ _ (fun _=>(hst.alloc _).S) ?_;exact ofX hX (by kernel_rfl) (by kernel_rfl) (by rw [hac]) (h112 _ F1 _ _ _ (hst.alloc _) (hst.tk.new hst.lo _ _) (hg2.alloc _))
    refine zmT.cons (o:=⟨_,_,_,_,_,_⟩) rfl (fun K hK=>?_) zmT.nil
    go_simp
    refine hK.out _ _ (fun _=>(hst.alloc _).S) ?_;exact ofX hX (by kernel_rfl) (by kernel_rfl) (by rw [hac]) (h123 _ F1 _ _ _ (hst.alloc _) (hg2.alloc _) (hst.tk.new hst.lo _ _))
   have h13:∀ (W:World) (F1:Value) (x0:Value) (g3:Nat) (hst:StT (w.heap.size+1+1) (w.heap.size+1+1+1) (w.heap.size+1) wr.heap.size w W #[.bool y.h.neg,.slice yH yhn yhc,.int .i64 y.h.e,.slice yT ytn ytc,.slice yA yn yc,.slice yB ym yd,.slice yC yp yq,.slice yV yvn yvc] F V T U F1 V T U (fF++[[.slice yA yn yc,.slice yB ym yd,.slice yC yp yq]]) fV fT fS ((trK x k).adF y.e)) (hg3:Bt w.heap.size W g3 41 #[.bool y.h.neg,.slice yH yhn yhc,.int .i64 y.h.e] F1 V T U),X 12 (lsB 24966143) (ac (x0) (F1) (u27) (u28) (u33) (u34) (.slice (some ⟨g3,0,none⟩) 1 1) (u40) (.pointer (some ⟨w.heap.size+1+1+1,0,none⟩))) W:=by
    intro W F1 x0 g3 hst hg3;rw [<- hX];simp only [hac];refine zmV (rs:=[10,16]) (by kernel_rfl) (by simp) ?_;refine zmT.cons (o:=⟨_,_,_,_,_,_⟩) rfl (fun K hK=>?_) ?_
    ·go_simp
     refine hK.out _ _ (fun _=>(hst.alloc _).S) ?_;exact ofX hX (by kernel_rfl) (by kernel_rfl) (by rw [hac]) (h113 _ F1 _ _ _ (hst.alloc _) (hst.tk.new hst.lo _ _) (hg3.alloc _))
    refine zmT.cons (o:=⟨_,_,_,_,_,_⟩) rfl (fun K hK=>?_) zmT.nil
    go_simp
    refine hK.out _ _ (fun _=>(hst.alloc _).S) ?_;exact ofX hX (by kernel_rfl) (by kernel_rfl) (by rw [hac]) (h123 _ F1 _ _ _ (hst.alloc _) (hst.tk.new hst.lo _ _) (hg3.alloc _))
   have h1:∀ (W:World) (F1:Value) (x0:Value) (hst:StT (w.heap.size+1+1) (w.heap.size+1+1+1) (w.heap.size+1) wr.heap.size w W #[.bool y.h.neg,.slice yH yhn yhc,.int .i64 y.h.e,.slice yT ytn ytc,.slice yA yn yc,.slice yB ym yd,.slice yC yp yq,.slice yV yvn yvc] F V T U F1 V T U (fF++[[.slice yA yn yc,.slice yB ym yd,.slice yC yp yq]]) fV fT fS ((trK x k).adF y.e)),X 13 (lsB 20771839) (ac (x0) (F1) (u27) (u28) (u33) (u34) (u39) (u40) (.pointer (some ⟨w.heap.size+1+1+1,0,none⟩))) W:=by
    intro W F1 x0 hst;rw [<- hX];simp only [hac];refine zmV (rs:=[10,16,22]) (by kernel_rfl) (by simp) ?_;refine zmT.cons (o:=⟨_,_,_,_,_,_⟩) rfl (fun K hK=>?_) ?_
    ·go_simp
     refine hK.out _ _ (fun _=>(hst.alloc _).S) ?_;exact ofX hX (by kernel_rfl) (by kernel_rfl) (by rw [hac]) (h11 _ F1 _ _ (hst.alloc _) (hst.tk.new hst.lo _ _))
    refine zmT.cons (o:=⟨_,_,_,_,_,_⟩) rfl (fun K hK=>?_) ?_
    ·go_simp
     refine hK.out _ _ (fun _=>(hst.alloc _).S) ?_;exact ofX hX (by kernel_rfl) (by kernel_rfl) (by rw [hac]) (h12 _ F1 _ _ (hst.alloc _) (hst.tk.new hst.lo _ _))
    refine zmT.cons (o:=⟨_,_,_,_,_,_⟩) rfl (fun K hK=>?_) zmT.nil
    go_simp
    refine hK.out _ _ (fun _=>(hst.alloc _).S) ?_;exact ofX hX (by kernel_rfl) (by kernel_rfl) (by rw [hac]) (h13 _ F1 _ _ (hst.alloc _) (hst.tk.new hst.lo _ _))
   have h00123:∀ (W:World) (g0:Nat) (g1:Nat) (g2:Nat) (g3:Nat) (hst:StT (w.heap.size+1+1) (w.heap.size+1+1+1) (w.heap.size+1) wr.heap.size w W #[.bool y.h.neg,.slice yH yhn yhc,.int .i64 y.h.e,.slice yT ytn ytc,.slice yA yn yc,.slice yB ym yd,.slice yC yp yq,.slice yV yvn yvc] F V T U F V T U fF fV fT fS (trK x k)) (hg0:Bt w.heap.size W g0 26 #[.slice yA yn yc,.slice yB ym yd,.slice yC yp yq] F V T U) (hg1:Bt w.heap.size W g1 23 #[.slice yV yvn yvc] F V T U) (hg2:Bt w.heap.size W g2 24 #[.slice yT ytn ytc] F V T U) (hg3:Bt w.heap.size W g3 41 #[.bool y.h.neg,.slice yH yhn yhc,.int .i64 y.h.e] F V T U),X 12 (lsB 8255455) (ac (.slice (some ⟨g0,0,none⟩) 1 1) (u22) (.slice (some ⟨g1,0,none⟩) 1 1) (u28) (.slice (some ⟨g2,0,none⟩) 1 1) (u34) (.slice (some ⟨g3,0,none⟩) 1 1) (u40) (u41)) W:=by
    intro W g0 g1 g2 g3 hst hg0 hg1 hg2 hg3;rw [<- hX];simp only [hac];refine rdn 5 (fun K hK=>?_);refine zmW rfl _ _ 32 rfl 26 3 72 _ zmf rfl (by omega) (by omega) Tryz.underlying32 (w.heap.size+1+1) F fF rfl hst.tk.f.own ⟨g0,0,none⟩ 1 [.slice yA yn yc,.slice yB ym yd,.slice yC yp yq] rfl rfl ?c1 ?c2 ?c3 hst.s ?_
    case c1=>
     intro j u hj;rw [zEM,Blk.cell hg0.blk]
     simpa using hj
    case c2=>intro u hu;simp at hu;rcases hu with rfl | rfl | rfl <;> rfl
    case c3=>omega
    intro F1 W1 o2 o3 o5;have hst1:=hst.addF (y:=y.e) o2 o3 o5 rfl (HRE.out.move (fun b hb=>hst.b.block b hb));refine hK.out _ _ (fun _=>hst1.S) ?_;simp only [Act.put,sT,sZ,sS];refine tkn 24 [] HCE.out hst1.S ?_;simp only [Act.put,sT,sZ,sS];exact ofX hX (by kernel_rfl) (by kernel_rfl) (by rw [hac]) (h1123 _ F1 _ _ _ _ hst1 (hg1.addF o3 o5) (hg2.addF o3 o5) (hg3.addF o3 o5))
   have h0012:∀ (W:World) (g0:Nat) (g1:Nat) (g2:Nat) (hst:StT (w.heap.size+1+1) (w.heap.size+1+1+1) (w.heap.size+1) wr.heap.size w W #[.bool y.h.neg,.slice yH yhn yhc,.int .i64 y.h.e,.slice yT ytn ytc,.slice yA yn yc,.slice yB ym yd,.slice yC yp yq,.slice yV yvn yvc] F V T U F V T U fF fV fT fS (trK x k)) (hg0:Bt w.heap.size W g0 26 #[.slice yA yn yc,.slice yB ym yd,.slice yC yp yq] F V T U) (hg1:Bt w.heap.size W g1 23 #[.slice yV yvn yvc] F V T U) (hg2:Bt w.heap.size W g2 24 #[.slice yT ytn ytc] F V T U),X 13 (lsB 4061151) (ac (.slice (some ⟨g0,0,none⟩) 1 1) (u22) (.slice (some ⟨g1,0,none⟩) 1 1) (u28) (.slice (some ⟨g2,0,none⟩) 1 1) (u34) (u39) (u40) (u41)) W:=by
    intro W g0 g1 g2 hst hg0 hg1 hg2;rw [<- hX];simp only [hac];refine zmV (rs:=[5,22]) (by kernel_rfl) (by simp) ?_;refine zmT.cons (o:=⟨_,_,_,_,_,_⟩) rfl (fun K hK=>?_) ?_
    ·refine zmW rfl _ _ 32 rfl 26 3 72 _ zmf rfl (by omega) (by omega) Tryz.underlying32 (w.heap.size+1+1) F fF rfl hst.tk.f.own ⟨g0,0,none⟩ 1 [.slice yA yn yc,.slice yB ym yd,.slice yC yp yq] rfl rfl ?c1 ?c2 ?c3 hst.s ?_
     case c1=>
      intro j u hj;rw [zEM,Blk.cell hg0.blk]
      simpa using hj
     case c2=>intro u hu;simp at hu;rcases hu with rfl | rfl | rfl <;> rfl
     case c3=>omega
     intro F1 W1 o2 o3 o5;have hst1:=hst.addF (y:=y.e) o2 o3 o5 rfl (HRE.out.move (fun b hb=>hst.b.block b hb));refine hK.out _ _ (fun _=>hst1.S) ?_;simp only [Act.put,sT,sZ,sS];refine tkn 24 [] HCE.out hst1.S ?_;simp only [Act.put,sT,sZ,sS];exact ofX hX (by kernel_rfl) (by kernel_rfl) (by rw [hac]) (h112 _ F1 _ _ _ hst1 (hg1.addF o3 o5) (hg2.addF o3 o5))
    refine zmT.cons (o:=⟨_,_,_,_,_,_⟩) rfl (fun K hK=>?_) zmT.nil
    go_simp
    refine hK.out _ _ (fun _=>(hst.alloc _).S) ?_;exact ofX hX (by kernel_rfl) (by kernel_rfl) (by rw [hac]) (h00123 _ _ _ _ _ (hst.alloc _) (hg0.alloc _) (hg1.alloc _) (hg2.alloc _) (hst.tk.new hst.lo _ _))
   have h0013:∀ (W:World) (g0:Nat) (g1:Nat) (g3:Nat) (hst:StT (w.heap.size+1+1) (w.heap.size+1+1+1) (w.heap.size+1) wr.heap.size w W #[.bool y.h.neg,.slice yH yhn yhc,.int .i64 y.h.e,.slice yT ytn ytc,.slice yA yn yc,.slice yB ym yd,.slice yC yp yq,.slice yV yvn yvc] F V T U F V T U fF fV fT fS (trK x k)) (hg0:Bt w.heap.size W g0 26 #[.slice yA yn yc,.slice yB ym yd,.slice yC yp yq] F V T U) (hg1:Bt w.heap.size W g1 23 #[.slice yV yvn yvc] F V T U) (hg3:Bt w.heap.size W g3 41 #[.bool y.h.neg,.slice yH yhn yhc,.int .i64 y.h.e] F V T U),X 13 (lsB 8189919) (ac (.slice (some ⟨g0,0,none⟩) 1 1) (u22) (.slice (some ⟨g1,0,none⟩) 1 1) (u28) (u33) (u34) (.slice (some ⟨g3,0,none⟩) 1 1) (u40) (u41)) W:=by
    intro W g0 g1 g3 hst hg0 hg1 hg3;rw [<- hX];simp only [hac];refine zmV (rs:=[5,16]) (by kernel_rfl) (by simp) ?_;refine zmT.cons (o:=⟨_,_,_,_,_,_⟩) rfl (fun K hK=>?_) ?_
    ·refine zmW rfl _ _ 32 rfl 26 3 72 _ zmf rfl (by omega) (by omega) Tryz.underlying32 (w.heap.size+1+1) F fF rfl hst.tk.f.own ⟨g0,0,none⟩ 1 [.slice yA yn yc,.slice yB ym yd,.slice yC yp yq] rfl rfl ?c1 ?c2 ?c3 hst.s ?_
     case c1=>
      intro j u hj;rw [zEM,Blk.cell hg0.blk]
      simpa using hj
     case c2=>intro u hu;simp at hu;rcases hu with rfl | rfl | rfl <;> rfl
     case c3=>omega
     intro F1 W1 o2 o3 o5;have hst1:=hst.addF (y:=y.e) o2 o3 o5 rfl (HRE.out.move (fun b hb=>hst.b.block b hb));refine hK.out _ _ (fun _=>hst1.S) ?_;simp only [Act.put,sT,sZ,sS];refine tkn 24 [] HCE.out hst1.S ?_;simp only [Act.put,sT,sZ,sS];exact ofX hX (by kernel_rfl) (by kernel_rfl) (by rw [hac]) (h113 _ F1 _ _ _ hst1 (hg1.addF o3 o5) (hg3.addF o3 o5))
    refine zmT.cons (o:=⟨_,_,_,_,_,_⟩) rfl (fun K hK=>?_) zmT.nil
    go_simp
    refine hK.out _ _ (fun _=>(hst.alloc _).S) ?_;exact ofX hX (by kernel_rfl) (by kernel_rfl) (by rw [hac]) (h00123 _ _ _ _ _ (hst.alloc _) (hg0.alloc _) (hg1.alloc _) (hst.tk.new hst.lo _ _) (hg3.alloc _))
   have h0023:∀ (W:World) (g0:Nat) (g2:Nat) (g3:Nat) (hst:StT (w.heap.size+1+1) (w.heap.size+1+1+1) (w.heap.size+1) wr.heap.size w W #[.bool y.h.neg,.slice yH yhn yhc,.int .i64 y.h.e,.slice yT ytn ytc,.slice yA yn yc,.slice yB ym yd,.slice yC yp yq,.slice yV yvn yvc] F V T U F V T U fF fV fT fS (trK x k)) (hg0:Bt w.heap.size W g0 26 #[.slice yA yn yc,.slice yB ym yd,.slice yC yp yq] F V T U) (hg2:Bt w.heap.size W g2 24 #[.slice yT ytn ytc] F V T U) (hg3:Bt w.heap.size W g3 41 #[.bool y.h.neg,.slice yH yhn yhc,.int .i64 y.h.e] F V T U),X 13 (lsB 8254431) (ac (.slice (some ⟨g0,0,none⟩) 1 1) (u22) (u27) (u28) (.slice (some ⟨g2,0,none⟩) 1 1) (u34) (.slice (some ⟨g3,0,none⟩) 1 1) (u40) (u41)) W:=by
    intro W g0 g2 g3 hst hg0 hg2 hg3;rw [<- hX];simp only [hac];refine zmV (rs:=[5,10]) (by kernel_rfl) (by simp) ?_;refine zmT.cons (o:=⟨_,_,_,_,_,_⟩) rfl (fun K hK=>?_) ?_
    ·refine zmW rfl _ _ 32 rfl 26 3 72 _ zmf rfl (by omega) (by omega) Tryz.underlying32 (w.heap.size+1+1) F fF rfl hst.tk.f.own ⟨g0,0,none⟩ 1 [.slice yA yn yc,.slice yB ym yd,.slice yC yp yq] rfl rfl ?c1 ?c2 ?c3 hst.s ?_
     case c1=>
      intro j u hj;rw [zEM,Blk.cell hg0.blk]
      simpa using hj
     case c2=>intro u hu;simp at hu;rcases hu with rfl | rfl | rfl <;> rfl
     case c3=>omega
     intro F1 W1 o2 o3 o5;have hst1:=hst.addF (y:=y.e) o2 o3 o5 rfl (HRE.out.move (fun b hb=>hst.b.block b hb));refine hK.out _ _ (fun _=>hst1.S) ?_;simp only [Act.put,sT,sZ,sS];refine tkn 24 [] HCE.out hst1.S ?_;simp only [Act.put,sT,sZ,sS];exact ofX hX (by kernel_rfl) (by kernel_rfl) (by rw [hac]) (h123 _ F1 _ _ _ hst1 (hg2.addF o3 o5) (hg3.addF o3 o5))
    refine zmT.cons (o:=⟨_,_,_,_,_,_⟩) rfl (fun K hK=>?_) zmT.nil
    go_simp
    refine hK.out _ _ (fun _=>(hst.alloc _).S) ?_;exact ofX hX (by kernel_rfl) (by kernel_rfl) (by rw [hac]) (h00123 _ _ _ _ _ (hst.alloc _) (hg0.alloc _) (hst.tk.new hst.lo _ _) (hg2.alloc _) (hg3.alloc _))
   have h0123:∀ (W:World) (g1:Nat) (g2:Nat) (g3:Nat) (hst:StT (w.heap.size+1+1) (w.heap.size+1+1+1) (w.heap.size+1) wr.heap.size w W #[.bool y.h.neg,.slice yH yhn yhc,.int .i64 y.h.e,.slice yT ytn ytc,.slice yA yn yc,.slice yB ym yd,.slice yC yp yq,.slice yV yvn yvc] F V T U F V T U fF fV fT fS (trK x k)) (hg1:Bt w.heap.size W g1 23 #[.slice yV yvn yvc] F V T U) (hg2:Bt w.heap.size W g2 24 #[.slice yT ytn ytc] F V T U) (hg3:Bt w.heap.size W g3 41 #[.bool y.h.neg,.slice yH yhn yhc,.int .i64 y.h.e] F V T U),X 13 (lsB 8255439) (ac (u21) (u22) (.slice (some ⟨g1,0,none⟩) 1 1) (u28) (.slice (some ⟨g2,0,none⟩) 1 1) (u34) (.slice (some ⟨g3,0,none⟩) 1 1) (u40) (u41)) W:=by
    intro W g1 g2 g3 hst hg1 hg2 hg3;rw [<- hX];simp only [hac];refine rdn 4 (fun K hK=>?_)
    go_simp
    refine hK.out _ _ (fun _=>(hst.alloc _).S) ?_;exact ofX hX (by kernel_rfl) (by kernel_rfl) (by rw [hac]) (h00123 _ _ _ _ _ (hst.alloc _) (hst.tk.new hst.lo _ _) (hg1.alloc _) (hg2.alloc _) (hg3.alloc _))
   have h001:∀ (W:World) (g0:Nat) (g1:Nat) (hst:StT (w.heap.size+1+1) (w.heap.size+1+1+1) (w.heap.size+1) wr.heap.size w W #[.bool y.h.neg,.slice yH yhn yhc,.int .i64 y.h.e,.slice yT ytn ytc,.slice yA yn yc,.slice yB ym yd,.slice yC yp yq,.slice yV yvn yvc] F V T U F V T U fF fV fT fS (trK x k)) (hg0:Bt w.heap.size W g0 26 #[.slice yA yn yc,.slice yB ym yd,.slice yC yp yq] F V T U) (hg1:Bt w.heap.size W g1 23 #[.slice yV yvn yvc] F V T U),X 14 (lsB 3995615) (ac (.slice (some ⟨g0,0,none⟩) 1 1) (u22) (.slice (some ⟨g1,0,none⟩) 1 1) (u28) (u33) (u34) (u39) (u40) (u41)) W:=by
    intro W g0 g1 hst hg0 hg1;rw [<- hX];simp only [hac];refine zmV (rs:=[5,16,22]) (by kernel_rfl) (by simp) ?_;refine zmT.cons (o:=⟨_,_,_,_,_,_⟩) rfl (fun K hK=>?_) ?_
    ·refine zmW rfl _ _ 32 rfl 26 3 72 _ zmf rfl (by omega) (by omega) Tryz.underlying32 (w.heap.size+1+1) F fF rfl hst.tk.f.own ⟨g0,0,none⟩ 1 [.slice yA yn yc,.slice yB ym yd,.slice yC yp yq] rfl rfl ?c1 ?c2 ?c3 hst.s ?_
     case c1=>
      intro j u hj;rw [zEM,Blk.cell hg0.blk]
      simpa using hj
     case c2=>intro u hu;simp at hu;rcases hu with rfl | rfl | rfl <;> rfl
     case c3=>omega
     intro F1 W1 o2 o3 o5;have hst1:=hst.addF (y:=y.e) o2 o3 o5 rfl (HRE.out.move (fun b hb=>hst.b.block b hb));refine hK.out _ _ (fun _=>hst1.S) ?_;simp only [Act.put,sT,sZ,sS];refine tkn 24 [] HCE.out hst1.S ?_;simp only [Act.put,sT,sZ,sS];exact ofX hX (by kernel_rfl) (by kernel_rfl) (by rw [hac]) (h11 _ F1 _ _ hst1 (hg1.addF o3 o5))
    refine zmT.cons (o:=⟨_,_,_,_,_,_⟩) rfl (fun K hK=>?_) ?_
    ·go_simp
     refine hK.out _ _ (fun _=>(hst.alloc _).S) ?_;exact ofX hX (by kernel_rfl) (by kernel_rfl) (by rw [hac]) (h0012 _ _ _ _ (hst.alloc _) (hg0.alloc _) (hg1.alloc _) (hst.tk.new hst.lo _ _))
    refine zmT.cons (o:=⟨_,_,_,_,_,_⟩) rfl (fun K hK=>?_) zmT.nil
    go_simp
    refine hK.out _ _ (fun _=>(hst.alloc _).S) ?_;exact ofX hX (by kernel_rfl) (by kernel_rfl) (by rw [hac]) (h0013 _ _ _ _ (hst.alloc _) (hg0.alloc _) (hg1.alloc _) (hst.tk.new hst.lo _ _))
   have h002:∀ (W:World) (g0:Nat) (g2:Nat) (hst:StT (w.heap.size+1+1) (w.heap.size+1+1+1) (w.heap.size+1) wr.heap.size w W #[.bool y.h.neg,.slice yH yhn yhc,.int .i64 y.h.e,.slice yT ytn ytc,.slice yA yn yc,.slice yB ym yd,.slice yC yp yq,.slice yV yvn yvc] F V T U F V T U fF fV fT fS (trK x k)) (hg0:Bt w.heap.size W g0 26 #[.slice yA yn yc,.slice yB ym yd,.slice yC yp yq] F V T U) (hg2:Bt w.heap.size W g2 24 #[.slice yT ytn ytc] F V T U),X 14 (lsB 4060127) (ac (.slice (some ⟨g0,0,none⟩) 1 1) (u22) (u27) (u28) (.slice (some ⟨g2,0,none⟩) 1 1) (u34) (u39) (u40) (u41)) W:=by
    intro W g0 g2 hst hg0 hg2;rw [<- hX];simp only [hac];refine zmV (rs:=[5,10,22]) (by kernel_rfl) (by simp) ?_;refine zmT.cons (o:=⟨_,_,_,_,_,_⟩) rfl (fun K hK=>?_) ?_
    ·refine zmW rfl _ _ 32 rfl 26 3 72 _ zmf rfl (by omega) (by omega) Tryz.underlying32 (w.heap.size+1+1) F fF rfl hst.tk.f.own ⟨g0,0,none⟩ 1 [.slice yA yn yc,.slice yB ym yd,.slice yC yp yq] rfl rfl ?c1 ?c2 ?c3 hst.s ?_
     case c1=>
      intro j u hj;rw [zEM,Blk.cell hg0.blk]
      simpa using hj
     case c2=>intro u hu;simp at hu;rcases hu with rfl | rfl | rfl <;> rfl
     case c3=>omega
     intro F1 W1 o2 o3 o5;have hst1:=hst.addF (y:=y.e) o2 o3 o5 rfl (HRE.out.move (fun b hb=>hst.b.block b hb));refine hK.out _ _ (fun _=>hst1.S) ?_;simp only [Act.put,sT,sZ,sS];refine tkn 24 [] HCE.out hst1.S ?_;simp only [Act.put,sT,sZ,sS];exact ofX hX (by kernel_rfl) (by kernel_rfl) (by rw [hac]) (h12 _ F1 _ _ hst1 (hg2.addF o3 o5))
    refine zmT.cons (o:=⟨_,_,_,_,_,_⟩) rfl (fun K hK=>?_) ?_
    ·go_simp
     refine hK.out _ _ (fun _=>(hst.alloc _).S) ?_;exact ofX hX (by kernel_rfl) (by kernel_rfl) (by rw [hac]) (h0012 _ _ _ _ (hst.alloc _) (hg0.alloc _) (hst.tk.new hst.lo _ _) (hg2.alloc _))
    refine zmT.cons (o:=⟨_,_,_,_,_,_⟩) rfl (fun K hK=>?_) zmT.nil
    go_simp
    refine hK.out _ _ (fun _=>(hst.alloc _).S) ?_;exact ofX hX (by kernel_rfl) (by kernel_rfl) (by rw [hac]) (h0023 _ _ _ _ (hst.alloc _) (hg0.alloc _) (hg2.alloc _) (hst.tk.new hst.lo _ _))
   have h003:∀ (W:World) (g0:Nat) (g3:Nat) (hst:StT (w.heap.size+1+1) (w.heap.size+1+1+1) (w.heap.size+1) wr.heap.size w W #[.bool y.h.neg,.slice yH yhn yhc,.int .i64 y.h.e,.slice yT ytn ytc,.slice yA yn yc,.slice yB ym yd,.slice yC yp yq,.slice yV yvn yvc] F V T U F V T U fF fV fT fS (trK x k)) (hg0:Bt w.heap.size W g0 26 #[.slice yA yn yc,.slice yB ym yd,.slice yC yp yq] F V T U) (hg3:Bt w.heap.size W g3 41 #[.bool y.h.neg,.slice yH yhn yhc,.int .i64 y.h.e] F V T U),X 14 (lsB 8188895) (ac (.slice (some ⟨g0,0,none⟩) 1 1) (u22) (u27) (u28) (u33) (u34) (.slice (some ⟨g3,0,none⟩) 1 1) (u40) (u41)) W:=by
    intro W g0 g3 hst hg0 hg3;rw [<- hX];simp only [hac];refine zmV (rs:=[5,10,16]) (by kernel_rfl) (by simp) ?_;refine zmT.cons (o:=⟨_,_,_,_,_,_⟩) rfl (fun K hK=>?_) ?_
    ·refine zmW rfl _ _ 32 rfl 26 3 72 _ zmf rfl (by omega) (by omega) Tryz.underlying32 (w.heap.size+1+1) F fF rfl hst.tk.f.own ⟨g0,0,none⟩ 1 [.slice yA yn yc,.slice yB ym yd,.slice yC yp yq] rfl rfl ?c1 ?c2 ?c3 hst.s ?_
     case c1=>
      intro j u hj;rw [zEM,Blk.cell hg0.blk]
      simpa using hj
     case c2=>intro u hu;simp at hu;rcases hu with rfl | rfl | rfl <;> rfl
     case c3=>omega
     intro F1 W1 o2 o3 o5;have hst1:=hst.addF (y:=y.e) o2 o3 o5 rfl (HRE.out.move (fun b hb=>hst.b.block b hb));refine hK.out _ _ (fun _=>hst1.S) ?_;simp only [Act.put,sT,sZ,sS];refine tkn 24 [] HCE.out hst1.S ?_;simp only [Act.put,sT,sZ,sS];exact ofX hX (by kernel_rfl) (by kernel_rfl) (by rw [hac]) (h13 _ F1 _ _ hst1 (hg3.addF o3 o5))
    refine zmT.cons (o:=⟨_,_,_,_,_,_⟩) rfl (fun K hK=>?_) ?_
    ·go_simp
     refine hK.out _ _ (fun _=>(hst.alloc _).S) ?_;exact ofX hX (by kernel_rfl) (by kernel_rfl) (by rw [hac]) (h0013 _ _ _ _ (hst.alloc _) (hg0.alloc _) (hst.tk.new hst.lo _ _) (hg3.alloc _))
    refine zmT.cons (o:=⟨_,_,_,_,_,_⟩) rfl (fun K hK=>?_) zmT.nil
    go_simp
    refine hK.out _ _ (fun _=>(hst.alloc _).S) ?_;exact ofX hX (by kernel_rfl) (by kernel_rfl) (by rw [hac]) (h0023 _ _ _ _ (hst.alloc _) (hg0.alloc _) (hst.tk.new hst.lo _ _) (hg3.alloc _))
   have h012:∀ (W:World) (g1:Nat) (g2:Nat) (hst:StT (w.heap.size+1+1) (w.heap.size+1+1+1) (w.heap.size+1) wr.heap.size w W #[.bool y.h.neg,.slice yH yhn yhc,.int .i64 y.h.e,.slice yT ytn ytc,.slice yA yn yc,.slice yB ym yd,.slice yC yp yq,.slice yV yvn yvc] F V T U F V T U fF fV fT fS (trK x k)) (hg1:Bt w.heap.size W g1 23 #[.slice yV yvn yvc] F V T U) (hg2:Bt w.heap.size W g2 24 #[.slice yT ytn ytc] F V T U),X 14 (lsB 4061135) (ac (u21) (u22) (.slice (some ⟨g1,0,none⟩) 1 1) (u28) (.slice (some ⟨g2,0,none⟩) 1 1) (u34) (u39) (u40) (u41)) W:=by
    intro W g1 g2 hst hg1 hg2;rw [<- hX];simp only [hac];refine zmV (rs:=[4,22]) (by kernel_rfl) (by simp) ?_;refine zmT.cons (o:=⟨_,_,_,_,_,_⟩) rfl (fun K hK=>?_) ?_
    ·go_simp
     refine hK.out _ _ (fun _=>(hst.alloc _).S) ?_;exact ofX hX (by kernel_rfl) (by kernel_rfl) (by rw [hac]) (h0012 _ _ _ _ (hst.alloc _) (hst.tk.new hst.lo _ _) (hg1.alloc _) (hg2.alloc _))
    refine zmT.cons (o:=⟨_,_,_,_,_,_⟩) rfl (fun K hK=>?_) zmT.nil
    go_simp
    refine hK.out _ _ (fun _=>(hst.alloc _).S) ?_;exact ofX hX (by kernel_rfl) (by kernel_rfl) (by rw [hac]) (h0123 _ _ _ _ (hst.alloc _) (hg1.alloc _) (hg2.alloc _) (hst.tk.new hst.lo _ _))
   have h013:∀ (W:World) (g1:Nat) (g3:Nat) (hst:StT (w.heap.size+1+1) (w.heap.size+1+1+1) (w.heap.size+1) wr.heap.size w W #[.bool y.h.neg,.slice yH yhn yhc,.int .i64 y.h.e,.slice yT ytn ytc,.slice yA yn yc,.slice yB ym yd,.slice yC yp yq,.slice yV yvn yvc] F V T U F V T U fF fV fT fS (trK x k)) (hg1:Bt w.heap.size W g1 23 #[.slice yV yvn yvc] F V T U) (hg3:Bt w.heap.size W g3 41 #[.bool y.h.neg,.slice yH yhn yhc,.int .i64 y.h.e] F V T U),X 14 (lsB 8189903) (ac (u21) (u22) (.slice (some ⟨g1,0,none⟩) 1 1) (u28) (u33) (u34) (.slice (some ⟨g3,0,none⟩) 1 1) (u40) (u41)) W:=by
    intro W g1 g3 hst hg1 hg3;rw [<- hX];simp only [hac];refine zmV (rs:=[4,16]) (by kernel_rfl) (by simp) ?_;refine zmT.cons (o:=⟨_,_,_,_,_,_⟩) rfl (fun K hK=>?_) ?_
    ·go_simp
     refine hK.out _ _ (fun _=>(hst.alloc _).S) ?_;exact ofX hX (by kernel_rfl) (by kernel_rfl) (by rw [hac]) (h0013 _ _ _ _ (hst.alloc _) (hst.tk.new hst.lo _ _) (hg1.alloc _) (hg3.alloc _))
    refine zmT.cons (o:=⟨_,_,_,_,_,_⟩) rfl (fun K hK=>?_) zmT.nil
    go_simp
    refine hK.out _ _ (fun _=>(hst.alloc _).S) ?_;exact ofX hX (by kernel_rfl) (by kernel_rfl) (by rw [hac]) (h0123 _ _ _ _ (hst.alloc _) (hg1.alloc _) (hst.tk.new hst.lo _ _) (hg3.alloc _))
   have h023:∀ (W:World) (g2:Nat) (g3:Nat) (hst:StT (w.heap.size+1+1) (w.heap.size+1+1+1) (w.heap.size+1) wr.heap.size w W #[.bool y.h.neg,.slice yH yhn yhc,.int .i64 y.h.e,.slice yT ytn ytc,.slice yA yn yc,.slice yB ym yd,.slice yC yp yq,.slice yV yvn yvc] F V T U F V T U fF fV fT fS (trK x k)) (hg2:Bt w.heap.size W g2 24 #[.slice yT ytn ytc] F V T U) (hg3:Bt w.heap.size W g3 41 #[.bool y.h.neg,.slice yH yhn yhc,.int .i64 y.h.e] F V T U),X 14 (lsB 8254415) (ac (u21) (u22) (u27) (u28) (.slice (some ⟨g2,0,none⟩) 1 1) (u34) (.slice (some ⟨g3,0,none⟩) 1 1) (u40) (u41)) W:=by
    intro W g2 g3 hst hg2 hg3;rw [<- hX];simp only [hac];refine zmV (rs:=[4,10]) (by kernel_rfl) (by simp) ?_;refine zmT.cons (o:=⟨_,_,_,_,_,_⟩) rfl (fun K hK=>?_) ?_
    ·go_simp
     refine hK.out _ _ (fun _=>(hst.alloc _).S) ?_;exact ofX hX (by kernel_rfl) (by kernel_rfl) (by rw [hac]) (h0023 _ _ _ _ (hst.alloc _) (hst.tk.new hst.lo _ _) (hg2.alloc _) (hg3.alloc _))
    refine zmT.cons (o:=⟨_,_,_,_,_,_⟩) rfl (fun K hK=>?_) zmT.nil
    go_simp
    refine hK.out _ _ (fun _=>(hst.alloc _).S) ?_;exact ofX hX (by kernel_rfl) (by kernel_rfl) (by rw [hac]) (h0123 _ _ _ _ (hst.alloc _) (hst.tk.new hst.lo _ _) (hg2.alloc _) (hg3.alloc _))
   have h00:∀ (W:World) (g0:Nat) (hst:StT (w.heap.size+1+1) (w.heap.size+1+1+1) (w.heap.size+1) wr.heap.size w W #[.bool y.h.neg,.slice yH yhn yhc,.int .i64 y.h.e,.slice yT ytn ytc,.slice yA yn yc,.slice yB ym yd,.slice yC yp yq,.slice yV yvn yvc] F V T U F V T U fF fV fT fS (trK x k)) (hg0:Bt w.heap.size W g0 26 #[.slice yA yn yc,.slice yB ym yd,.slice yC yp yq] F V T U),X 15 (lsB 3994591) (ac (.slice (some ⟨g0,0,none⟩) 1 1) (u22) (u27) (u28) (u33) (u34) (u39) (u40) (u41)) W:=by
    intro W g0 hst hg0;rw [<- hX];simp only [hac];refine zmV (rs:=[5,10,16,22]) (by kernel_rfl) (by simp) ?_;refine zmT.cons (o:=⟨_,_,_,_,_,_⟩) rfl (fun K hK=>?_) ?_
    ·refine zmW rfl _ _ 32 rfl 26 3 72 _ zmf rfl (by omega) (by omega) Tryz.underlying32 (w.heap.size+1+1) F fF rfl hst.tk.f.own ⟨g0,0,none⟩ 1 [.slice yA yn yc,.slice yB ym yd,.slice yC yp yq] rfl rfl ?c1 ?c2 ?c3 hst.s ?_
     case c1=>
      intro j u hj;rw [zEM,Blk.cell hg0.blk]
      simpa using hj
     case c2=>intro u hu;simp at hu;rcases hu with rfl | rfl | rfl <;> rfl
     case c3=>omega
     intro F1 W1 o2 o3 o5;have hst1:=hst.addF (y:=y.e) o2 o3 o5 rfl (HRE.out.move (fun b hb=>hst.b.block b hb));refine hK.out _ _ (fun _=>hst1.S) ?_;simp only [Act.put,sT,sZ,sS];refine tkn 24 [] HCE.out hst1.S ?_;simp only [Act.put,sT,sZ,sS];exact ofX hX (by kernel_rfl) (by kernel_rfl) (by rw [hac]) (h1 _ F1 _ hst1)
    refine zmT.cons (o:=⟨_,_,_,_,_,_⟩) rfl (fun K hK=>?_) ?_
    ·go_simp
     refine hK.out _ _ (fun _=>(hst.alloc _).S) ?_;exact ofX hX (by kernel_rfl) (by kernel_rfl) (by rw [hac]) (h001 _ _ _ (hst.alloc _) (hg0.alloc _) (hst.tk.new hst.lo _ _))
    refine zmT.cons (o:=⟨_,_,_,_,_,_⟩) rfl (fun K hK=>?_) ?_
    ·go_simp
     refine hK.out _ _ (fun _=>(hst.alloc _).S) ?_;exact ofX hX (by kernel_rfl) (by kernel_rfl) (by rw [hac]) (h002 _ _ _ (hst.alloc _) (hg0.alloc _) (hst.tk.new hst.lo _ _))
    refine zmT.cons (o:=⟨_,_,_,_,_,_⟩) rfl (fun K hK=>?_) zmT.nil
    go_simp
    refine hK.out _ _ (fun _=>(hst.alloc _).S) ?_;exact ofX hX (by kernel_rfl) (by kernel_rfl) (by rw [hac]) (h003 _ _ _ (hst.alloc _) (hg0.alloc _) (hst.tk.new hst.lo _ _))
   have h01:∀ (W:World) (g1:Nat) (hst:StT (w.heap.size+1+1) (w.heap.size+1+1+1) (w.heap.size+1) wr.heap.size w W #[.bool y.h.neg,.slice yH yhn yhc,.int .i64 y.h.e,.slice yT ytn ytc,.slice yA yn yc,.slice yB ym yd,.slice yC yp yq,.slice yV yvn yvc] F V T U F V T U fF fV fT fS (trK x k)) (hg1:Bt w.heap.size W g1 23 #[.slice yV yvn yvc] F V T U),X 15 (lsB 3995599) (ac (u21) (u22) (.slice (some ⟨g1,0,none⟩) 1 1) (u28) (u33) (u34) (u39) (u40) (u41)) W:=by
    intro W g1 hst hg1;rw [<- hX];simp only [hac];refine zmV (rs:=[4,16,22]) (by kernel_rfl) (by simp) ?_;refine zmT.cons (o:=⟨_,_,_,_,_,_⟩) rfl (fun K hK=>?_) ?_
    ·go_simp
     refine hK.out _ _ (fun _=>(hst.alloc _).S) ?_;exact ofX hX (by kernel_rfl) (by kernel_rfl) (by rw [hac]) (h001 _ _ _ (hst.alloc _) (hst.tk.new hst.lo _ _) (hg1.alloc _))
    refine zmT.cons (o:=⟨_,_,_,_,_,_⟩) rfl (fun K hK=>?_) ?_
    ·go_simp
     refine hK.out _ _ (fun _=>(hst.alloc _).S) ?_;exact ofX hX (by kernel_rfl) (by kernel_rfl) (by rw [hac]) (h012 _ _ _ (hst.alloc _) (hg1.alloc _) (hst.tk.new hst.lo _ _))
    refine zmT.cons (o:=⟨_,_,_,_,_,_⟩) rfl (fun K hK=>?_) zmT.nil
    go_simp
    refine hK.out _ _ (fun _=>(hst.alloc _).S) ?_;exact ofX hX (by kernel_rfl) (by kernel_rfl) (by rw [hac]) (h013 _ _ _ (hst.alloc _) (hg1.alloc _) (hst.tk.new hst.lo _ _))
   have h02:∀ (W:World) (g2:Nat) (hst:StT (w.heap.size+1+1) (w.heap.size+1+1+1) (w.heap.size+1) wr.heap.size w W #[.bool y.h.neg,.slice yH yhn yhc,.int .i64 y.h.e,.slice yT ytn ytc,.slice yA yn yc,.slice yB ym yd,.slice yC yp yq,.slice yV yvn yvc] F V T U F V T U fF fV fT fS (trK x k)) (hg2:Bt w.heap.size W g2 24 #[.slice yT ytn ytc] F V T U),X 15 (lsB 4060111) (ac (u21) (u22) (u27) (u28) (.slice (some ⟨g2,0,none⟩) 1 1) (u34) (u39) (u40) (u41)) W:=by
    intro W g2 hst hg2;rw [<- hX];simp only [hac];refine zmV (rs:=[4,10,22]) (by kernel_rfl) (by simp) ?_;refine zmT.cons (o:=⟨_,_,_,_,_,_⟩) rfl (fun K hK=>?_) ?_
    ·go_simp
     refine hK.out _ _ (fun _=>(hst.alloc _).S) ?_;exact ofX hX (by kernel_rfl) (by kernel_rfl) (by rw [hac]) (h002 _ _ _ (hst.alloc _) (hst.tk.new hst.lo _ _) (hg2.alloc _))
    refine zmT.cons (o:=⟨_,_,_,_,_,_⟩) rfl (fun K hK=>?_) ?_
    ·go_simp
     refine hK.out _ _ (fun _=>(hst.alloc _).S) ?_;exact ofX hX (by kernel_rfl) (by kernel_rfl) (by rw [hac]) (h012 _ _ _ (hst.alloc _) (hst.tk.new hst.lo _ _) (hg2.alloc _))
    refine zmT.cons (o:=⟨_,_,_,_,_,_⟩) rfl (fun K hK=>?_) zmT.nil
    go_simp
    refine hK.out _ _ (fun _=>(hst.alloc _).S) ?_;exact ofX hX (by kernel_rfl) (by kernel_rfl) (by rw [hac]) (h023 _ _ _ (hst.alloc _) (hg2.alloc _) (hst.tk.new hst.lo _ _))
   have h03:∀ (W:World) (g3:Nat) (hst:StT (w.heap.size+1+1) (w.heap.size+1+1+1) (w.heap.size+1) wr.heap.size w W #[.bool y.h.neg,.slice yH yhn yhc,.int .i64 y.h.e,.slice yT ytn ytc,.slice yA yn yc,.slice yB ym yd,.slice yC yp yq,.slice yV yvn yvc] F V T U F V T U fF fV fT fS (trK x k)) (hg3:Bt w.heap.size W g3 41 #[.bool y.h.neg,.slice yH yhn yhc,.int .i64 y.h.e] F V T U),X 15 (lsB 8188879) (ac (u21) (u22) (u27) (u28) (u33) (u34) (.slice (some ⟨g3,0,none⟩) 1 1) (u40) (u41)) W:=by
    intro W g3 hst hg3;rw [<- hX];simp only [hac];refine zmV (rs:=[4,10,16]) (by kernel_rfl) (by simp) ?_;refine zmT.cons (o:=⟨_,_,_,_,_,_⟩) rfl (fun K hK=>?_) ?_
    ·go_simp
     refine hK.out _ _ (fun _=>(hst.alloc _).S) ?_;exact ofX hX (by kernel_rfl) (by kernel_rfl) (by rw [hac]) (h003 _ _ _ (hst.alloc _) (hst.tk.new hst.lo _ _) (hg3.alloc _))
    refine zmT.cons (o:=⟨_,_,_,_,_,_⟩) rfl (fun K hK=>?_) ?_
    ·go_simp
     refine hK.out _ _ (fun _=>(hst.alloc _).S) ?_;exact ofX hX (by kernel_rfl) (by kernel_rfl) (by rw [hac]) (h013 _ _ _ (hst.alloc _) (hst.tk.new hst.lo _ _) (hg3.alloc _))
    refine zmT.cons (o:=⟨_,_,_,_,_,_⟩) rfl (fun K hK=>?_) zmT.nil
    go_simp
    refine hK.out _ _ (fun _=>(hst.alloc _).S) ?_;exact ofX hX (by kernel_rfl) (by kernel_rfl) (by rw [hac]) (h023 _ _ _ (hst.alloc _) (hst.tk.new hst.lo _ _) (hg3.alloc _))
   have h0:∀ (W:World) (hst:StT (w.heap.size+1+1) (w.heap.size+1+1+1) (w.heap.size+1) wr.heap.size w W #[.bool y.h.neg,.slice yH yhn yhc,.int .i64 y.h.e,.slice yT ytn ytc,.slice yA yn yc,.slice yB ym yd,.slice yC yp yq,.slice yV yvn yvc] F V T U F V T U fF fV fT fS (trK x k)),X 16 (lsB 3994575) (ac (u21) (u22) (u27) (u28) (u33) (u34) (u39) (u40) (u41)) W:=by
    intro W hst;rw [<- hX];simp only [hac];refine zmV (rs:=[4,10,16,22]) (by kernel_rfl) (by simp) ?_;refine zmT.cons (o:=⟨_,_,_,_,_,_⟩) rfl (fun K hK=>?_) ?_
    ·go_simp
     refine hK.out _ _ (fun _=>(hst.alloc _).S) ?_;exact ofX hX (by kernel_rfl) (by kernel_rfl) (by rw [hac]) (h00 _ _ (hst.alloc _) (hst.tk.new hst.lo _ _))
    refine zmT.cons (o:=⟨_,_,_,_,_,_⟩) rfl (fun K hK=>?_) ?_
    ·go_simp
     refine hK.out _ _ (fun _=>(hst.alloc _).S) ?_;exact ofX hX (by kernel_rfl) (by kernel_rfl) (by rw [hac]) (h01 _ _ (hst.alloc _) (hst.tk.new hst.lo _ _))
    refine zmT.cons (o:=⟨_,_,_,_,_,_⟩) rfl (fun K hK=>?_) ?_
    ·go_simp
     refine hK.out _ _ (fun _=>(hst.alloc _).S) ?_;exact ofX hX (by kernel_rfl) (by kernel_rfl) (by rw [hac]) (h02 _ _ (hst.alloc _) (hst.tk.new hst.lo _ _))
    refine zmT.cons (o:=⟨_,_,_,_,_,_⟩) rfl (fun K hK=>?_) zmT.nil
    go_simp
    refine hK.out _ _ (fun _=>(hst.alloc _).S) ?_;exact ofX hX (by kernel_rfl) (by kernel_rfl) (by rw [hac]) (h03 _ _ (hst.alloc _) (hst.tk.new hst.lo _ _))
   exact ofX rfl (by kernel_rfl) (by kernel_rfl) (by rw [hac]) (h0 Wd HS0.out)
  ·obtain rfl:xln=k:=by omega
   have HTR:Hid (trK x xln=trP x):=zmy (by rw [HL4.out];exact Ya _);have hI:=HI.out;obtain ⟨A1,n1,c1,rfl⟩:=zED hI.tk.f.own;obtain ⟨A2,n2,c2,rfl⟩:=zED hI.tk.v.own;obtain ⟨A3,n3,c3,rfl⟩:=zED hI.tk.t.own;obtain ⟨A4,n4,c4,rfl⟩:=zED hI.tk.s.own;have HW:Hid (Blk ((((wr.setCell ⟨w.heap.size+1,0,none⟩ (.slice A1 n1 c1)).setCell ⟨w.heap.size+1,1,none⟩ (.slice A2 n2 c2)).setCell ⟨w.heap.size+1,2,none⟩ (.slice A3 n3 c3)).setCell ⟨w.heap.size+1,3,none⟩ (.slice A4 n4 c4)) (w.heap.size+1) 36 #[.slice A1 n1 c1,.slice A2 n2 c2,.slice A3 n3 c3,.slice A4 n4 c4]):=(((hI.br.blk.set_ 0 (.slice A1 n1 c1)).set_ 1 (.slice A2 n2 c2)).set_ 2 (.slice A3 n3 c3)).set_ 3 (.slice A4 n4 c4);have hkr:KR (w.heap.size+1) wr ((((wr.setCell ⟨w.heap.size+1,0,none⟩ (.slice A1 n1 c1)).setCell ⟨w.heap.size+1,1,none⟩ (.slice A2 n2 c2)).setCell ⟨w.heap.size+1,2,none⟩ (.slice A3 n3 c3)).setCell ⟨w.heap.size+1,3,none⟩ (.slice A4 n4 c4)):=(((KR.set 0 (.slice A1 n1 c1)).trans (KR.set 1 (.slice A2 n2 c2))).trans (KR.set 2 (.slice A3 n3 c3))).trans (KR.set 3 (.slice A4 n4 c4));have hle:w.heap.size<=wr.heap.size:=by omega
   have htk:=hI.tk.keep hle (fun b hb hne=>hkr.block b hb hne) (by omega) hI.br.nb.1 hI.br.nb.2.1 hI.br.nb.2.2.1 hI.br.nb.2.2.2;have HRT2:=Zh (htk.rt (Yq hle hkr.size));have HBE:=Zh (hI.b.trans (hkr.below (B:=w.heap.size) hle (by omega)));obtain ⟨t0,t1,t2,t3⟩:=hI.bt.blk.cells4;obtain ⟨r0,r1,r2,r3⟩:=hI.br.blk.cells4;have f0:=hI.br.blk.frozen 0;have f1:=hI.br.blk.frozen 1;have f2:=hI.br.blk.frozen 2;have f3:=hI.br.blk.frozen 3;clear hI hkr htk HI;go_wp2_with fail
   refine Yn (zm8 hfr rfl HW.out) rfl ?_;rw [<- HTR.out];exact ⟨_,rfl,rfl,HRT2.out,HBE.out⟩
theorem zmr (vs:List Value) (x:Ct) (w:World) (h:RC w vs x) (hl:x.links.length<=1000):Calls Tryz.prog 9 #[.agg vs.toArray] w fun e w'=>∃us:List Value,e=.returned (.agg us.toArray)/\us.length=4/\RT w' us (trP x)/\Below w.heap.size w w':=
 zqS _ Tryz.f9 id Tryz.func9 (by kernel_rfl) Tryz.ntmps9 Tryz.results9 vs x w h hl
end Go.Proofs.YtchkfjgcbbbffaaGreatDoor
end
