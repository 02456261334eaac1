/- Bundle 22: what the law's walk stands on: Q33. -/
import Derived.Defers
import Derived.Test.YtngjhigieajkmaaGreatDoorH12
import Derived.Test.YtngjhigieajkmaaGreatDoorH17
set_option maxRecDepth 100000
set_option maxHeartbeats 20000000
set_option linter.all false
noncomputable section
namespace Go.Proofs.YtngjhigieajkmaaGreatDoor
open Go.RowKit Pl
def zfz (P:Program) (d:Deferred):Prop:=
 ∀w,∃fv cap f args,d.target=.fn fv cap/\(invoke d.target d.args).run P w=.ok (.enter f args) w/\CallsD P f args .returning w fun e u' w'=>(∃v,e=.returned v)/\u' = .returning/\w' = w
def two (B:Big) (ev:Ev B.E) (D:Nat) (r0 rest:CC B.E D) (tst:Tm->Bool) (gc:Nat) (rs:List ResultVar) (args:List AV) (H:Hp) (n:Nat):RV:=
 Res.rec .fail (fun x T1 H1 n1=>Ex.rec (Bool.rec .fail (Res.rec .fail (fun y T2 H2 n2=>Ex.rec .fail (Option.rec .fail (fun vs=>zGs gc n (one vs) H2 n2) (zHc B.E T2 H2 rs)) (fun _=>.fail) y) (ev D rest T1 H1 n1)) (tst T1)) .fail (fun _=>.fail) x) (ev D r0 (zDg D args 0) H n)
theorem zVm {B:Big}{ev:Ev B.E}{D:Nat}{r0 rest:CC B.E D}{tst:Tm->Bool}{gc:Nat}{rs:List ResultVar}{args:List AV}{H:Hp}{n:Nat}{v:AV}{H':Hp}{n':Nat}(h:two B ev D r0 rest tst gc rs args H n=.ok v H' n') :
  ∃T1 H1 n1 T2 H2 n2 vs,ev D r0 (zDg D args 0) H n=.ok .nrm T1 H1 n1/\tst T1=true/\ev D rest T1 H1 n1=.ok .ret T2 H2 n2/\zHc B.E T2 H2 rs=some vs/\zGs gc n (one vs) H2 n2=.ok v H' n':=by
 unfold two at h;cases he:ev D r0 (zDg D args 0) H n with
 | fail=>rw [he] at h;cases h
 | ok x T1 H1 n1=>
  rw [he] at h;cases x with
  | ret=>cases h
  | exit i=>cases h
  | nrm=>
   dsimp only at h;cases ht:tst T1 with
   | false=>rw [ht] at h;cases h
   | true=>
    rw [ht] at h;dsimp only at h;cases h2:ev D rest T1 H1 n1 with
    | fail=>rw [h2] at h;cases h
    | ok y T2 H2 n2=>
     rw [h2] at h;cases y with
     | nrm=>cases h
     | exit i=>cases h
     | ret=>
      dsimp only at h;cases h3:zHc B.E T2 H2 rs with
      | none=>rw [h3] at h;cases h
      | some vs=>rw [h3] at h;exact ⟨T1,H1,n1,T2,H2,n2,vs,rfl,ht,h2,h3,h⟩
theorem zPV {P:Program}{G:Gl}{B:Big}(h:zGQ P G B) {m f:Nat}{fn:Func}{D:Nat}{r0 rest:CC B.E D}{id:Nat}{ops:Array Oper}{dr:Bool}{tst:Tm->Bool}{gc:Nat}{args:List AV}{H:Hp}{n:Nat}{v:AV}{H':Hp}{n':Nat}
  (hfn:P.funcs[f]? = some fn) (hname:(fn.name == "runtime.NumGoroutine")=false) (hb:fn.body=some (.seq (zBA r0) (.seq (.region id ops dr) (zBA rest))))
  (h0:zBN fn.ntmps (zBA r0)=true) (h2:zBN fn.ntmps (zBA rest)=true)
  (hreg:∀ (ι:Io) (fz:Nat->Prop) (w:World) (T1:Tm) (a:Act),zFN ι fz w T1 a->fn.ntmps<=a.tmps.size->a.defers=[]->tst T1=true->
   ∀Q:Exit->Act->World->Prop,(∀a',a'.tmps.size=a.tmps.size->zFN ι fz w T1 a'->(∃d,a'.defers=[d]/\zfz P d)->Q .normal a' w)->(Code.region id ops dr).wp P Q a w)
  (hrun:two B (ev B m) D r0 rest tst gc fn.results.toList args H n=.ok v H' n'):zCu P G f args H n v H' n':=by
 intro ι fz w vals hr hI hD hf;obtain ⟨T1,H1,n1,T2,H2,n2,vs,he,ht,hx,hres,hgc⟩:=zVm hrun;have snd:=(zEy h.mix h.ti h.fn h.nat h.memoMono h.memoOK m).2;have l0:=zFX h.memoMono m _ _ _ _ _ _ _ _ _ he hD;have l9:=zFX h.memoMono m _ _ _ _ _ _ _ _ _ hx l0.desc;have hsub:=zGt hgc l9.desc;obtain ⟨rfl,rfl,_⟩:=zE2 hgc;refine .inr ⟨?_,calls_of_wp_defers hfn hb ?_⟩
 ·have hname':¬ fn.name = "runtime.NumGoroutine":=by simpa using hname
  simp [callFunc,hfn,hname',hb]
 refine wp_seq (snd D fn.ntmps r0 h0 _ _ _ _ _ _ _ he (zC2 D args 0) ι fz w _ (by simp;omega) ((zJS hr _).weak (zD0 D args 0)) hI hD (fun i h1 h2=>hf i h1 (by have:=l9.le;omega)) _ fun e a1 w1 hxe hA=>?_);have hxe':e=.normal:=hxe;subst hxe';obtain ⟨ι1,fz1,hT1,hI1,hf1,hAA⟩:=hA.next l0.le l9.le hf;have hz1:fn.ntmps<=a1.tmps.size:=by rw [hA.1];simp;omega
 refine wp_seq (hreg ι1 fz1 w1 T1 a1 hT1 hz1 hA.2.1 ht _ fun a2 hz hT2 hd=>?_);obtain ⟨d,hd,hidle⟩:=hd;refine snd D fn.ntmps rest h2 _ _ _ _ _ _ _ hx (zN2 m _ _ _ _ _ _ _ _ _ he (zC2 D args 0)) ι1 fz1 w1 a2 (by omega) hT2 hI1 l0.desc hf1 _ fun e a3 w3 hxe hB=>?_
 have hxe':e=.ret:=hxe;subst hxe';obtain ⟨g1,g2,ι3,fz3,hp3,hT3⟩:=hB;obtain ⟨q1,q2,ι2,fz2,hp,hT⟩:=hAA (a':={ a3 with tmps:=a3.tmps,defers:=a1.defers }) (w':=w3) (T':=T2) (H':=H2) ⟨g1.trans hz,rfl,ι3,fz3,hp3,hT3⟩;obtain ⟨us,h5,h6⟩:=zLH h.ti hp.inv hT _ _ hres;have hrun:(results fn a3.tmps).run P w3=.ok (if h:us.toArray.size=1 then us.toArray[0] else .tuple us.toArray) w3:=by
  rw [zIB,Array.mapM_eq_mapM_toList,Sem.run_bind,map_eq_pure_bind,Sem.run_bind,h5];rfl
 show Leaves P fn a3.tmps _ a3.defers .returning w3
 rw [g2,hd];obtain ⟨fv,cap,g,gargs,k1,k2,k3⟩:=hidle w3;refine ⟨by simp,fv,cap,g,gargs,k1,k2,k3.mono ?_⟩;rintro e u' w' ⟨⟨x,rfl⟩,rfl,rfl⟩
 exact ⟨_,hrun,ι2,fz2,hp.sub hsub,zOf h6⟩
theorem zA0 (E:Env):∀c:Code,zBA (zB4 E c)=c
 | .skip=>rfl
 | .ret=>rfl
 | .exit _=>rfl
 | .label _=>rfl
 | .seq a b=>by show Code.seq (zBA (zB4 E a)) (zBA (zB4 E b))=_;rw [zA0 E a,zA0 E b]
 | .cond c a b=>by show Code.cond c (zBA (zB4 E a)) (zBA (zB4 E b))=_;rw [zA0 E a,zA0 E b]
 | .block id b=>by show Code.block id (zBA (zB4 E b))=_;rw [zA0 E b]
 | .loop b=>by show Code.loop (zBA (zB4 E b))=_;rw [zA0 E b]
 | .scope b=>by show Code.scope (zBA (zB4 E b))=_;rw [zA0 E b]
 | .region _ _ _=>rfl
 | .rangeFunc ..=>rfl
 | .goto _=>rfl
 | .refuse _=>rfl
theorem zMO {P:Program}{G:Gl}{B:Big}(h:zGQ P G B) {m f:Nat}{fn:Func}{c0 c2:Code}{id:Nat}{ops:Array Oper}{dr:Bool}{tst:Tm->Bool}{gc:Nat}{args:List AV}{H:Hp}{n:Nat}{v:AV}{H':Hp}{n':Nat}
  (hfn:P.funcs[f]? = some fn) (hname:(fn.name == "runtime.NumGoroutine")=false) (hb:fn.body=some (.seq c0 (.seq (.region id ops dr) c2)))
  (h0:zBN fn.ntmps c0=true) (h2:zBN fn.ntmps c2=true)
  (hreg:∀ (ι:Io) (fz:Nat->Prop) (w:World) (T1:Tm) (a:Act),zFN ι fz w T1 a->fn.ntmps<=a.tmps.size->a.defers=[]->tst T1=true->
   ∀Q:Exit->Act->World->Prop,(∀a',a'.tmps.size=a.tmps.size->zFN ι fz w T1 a'->(∃d,a'.defers=[d]/\zfz P d)->Q .normal a' w)->(Code.region id ops dr).wp P Q a w)
  (hrun:two B (ev B m) 0 (zB4 B.E c0) (zB4 B.E c2) tst gc fn.results.toList args H n=.ok v H' n'):zCu P G f args H n v H' n':=
 zPV h hfn hname (by rw [zA0,zA0];exact hb) (by rw [zA0];exact h0) (by rw [zA0];exact h2) hreg hrun
#print axioms zMO
end Go.Proofs.YtngjhigieajkmaaGreatDoor
end
