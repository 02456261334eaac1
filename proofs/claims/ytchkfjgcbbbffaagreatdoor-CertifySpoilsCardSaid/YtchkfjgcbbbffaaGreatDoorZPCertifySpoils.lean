/- CertifySpoils: for every input the law returns true, and each argument reads as it read before: the row, and the card that ties its listed tables to the program's text. (Printed by gen_p.py.) -/
import Derived.Carry
import Derived.Test.YtchkfjgcbbbffaaGreatDoorZ9
import Derived.Test.YtchkfjgcbbbffaaGreatDoorZ42
import Derived.Test.YtchkfjgcbbbffaaGreatDoorZ43
import Derived.Test.YtchkfjgcbbbffaaGreatDoorZ48
namespace Go.Proofs.YtchkfjgcbbbffaaGreatDoor.cspoils
open Go.ChangeShapes Go.WideShapes Go.ChangeAt Go.RowKit Go.Shelf Pl
section
variable {H:Type}{enc:TypeId×Value->H}{P:Program}{w:World}{base:Nat}{spare:Nat->Bool}{held:Bool}
theorem trodAll_five {t0 t1 t2 t3 t4:TypeId}{args:Array Value}{ds:List (DataW H)}{ps:List MemPlace}(h:DataW.TrodAll enc P w base spare held [t0,t1,t2,t3,t4] args.toList ds ps) :
  ∃v0 v1 v2 v3 v4 d0 d1 d2 d3 d4 p0 p1 p2 p3 p4,args=#[v0,v1,v2,v3,v4]/\ds=[d0,d1,d2,d3,d4]/\ps=p0++p1++p2++p3++p4/\DataW.Trod enc P w base spare held t0 v0 d0 p0/\DataW.Trod enc P w base spare held t1 v1 d1 p1/\DataW.Trod enc P w base spare held t2 v2 d2 p2/\DataW.Trod enc P w base spare held t3 v3 d3 p3/\DataW.Trod enc P w base spare held t4 v4 d4 p4:=by
 obtain ⟨v0,e0,d0,f0,p0,q0,ha,rfl,rfl,h0,r0⟩:=trodAll_cons h;obtain ⟨v1,e1,d1,f1,p1,q1,rfl,rfl,rfl,h1,r1⟩:=trodAll_cons r0;obtain ⟨v2,e2,d2,f2,p2,q2,rfl,rfl,rfl,h2,r2⟩:=trodAll_cons r1;obtain ⟨v3,e3,d3,f3,p3,q3,rfl,rfl,rfl,h3,r3⟩:=trodAll_cons r2;obtain ⟨v4,e4,d4,f4,p4,q4,rfl,rfl,rfl,h4,r4⟩:=trodAll_cons r3;obtain ⟨rfl,rfl,rfl⟩:=trodAll_nil r4;exact ⟨v0,v1,v2,v3,v4,d0,d1,d2,d3,d4,p0,p1,p2,p3,p4,by cases args;simp_all,rfl,by simp,h0,h1,h2,h3,h4⟩
theorem trodAll_mk5 {t0 t1 t2 t3 t4:TypeId}{v0 v1 v2 v3 v4:Value}{d0 d1 d2 d3 d4:DataW H}{p0 p1 p2 p3 p4:List MemPlace}(h0:DataW.Trod enc P w base spare held t0 v0 d0 p0) (h1:DataW.Trod enc P w base spare held t1 v1 d1 p1)
  (h2:DataW.Trod enc P w base spare held t2 v2 d2 p2) (h3:DataW.Trod enc P w base spare held t3 v3 d3 p3) (h4:DataW.Trod enc P w base spare held t4 v4 d4 p4) :
  DataW.TrodAll enc P w base spare held [t0,t1,t2,t3,t4] [v0,v1,v2,v3,v4] [d0,d1,d2,d3,d4] (p0++(p1++(p2++(p3++p4)))):=⟨p0,p1++(p2++(p3++p4)),h0,trodAll_mk4 h1 h2 h3 h4,rfl⟩
end
set_option maxRecDepth 100000 in
theorem contract (H:Type) (enc:TypeId×Value->H) (W:World) (base:Nat) (args:Array Value) (ds gs:List (DataW H)) (before:List MemPlace)
  (hval:∀ (j:Nat) t v,Tryz.f4.params[j]? = some t->args[j]? = some v->Value.okWide Tryz.prog W .any base t v)
  (hW:DataW.Whole enc Tryz.prog Tryz.f4.params.toList Rows.certifySpoilsSpec.vars false W args.toList ds gs before) (hL:laidMetH Tryz.prog Rows.certifySpoilsRow.laid W) :
  Calls Tryz.prog 4 args W fun e W'=>∃v,e=.returned v/\Rows.certifySpoilsSpec.post enc Tryz.prog Tryz.f4 false true false false W args v W':=by
 have hlt:∀p∈before,p.block<W.heap.size:=fun p hp=>hW.lt p hp
 have hW':=hW;obtain ⟨p,q,hA0,hV,rfl,hfz,hnd⟩:=hW;have hA:DataW.TrodAll enc Tryz.prog W 0 (fun _=>true) true Tryz.f4.params.toList args.toList ds p:=hA0;rw [Tryz.params4] at hA hval;obtain ⟨v0,v1,v2,v3,v4,d0,d1,d2,d3,d4,p0,p1,p2,p3,p4,rfl,rfl,rfl,h0,h1,h2,h3,h4⟩:=trodAll_five hA;obtain ⟨rfl,rfl⟩:=trodVars_none hV;have k0:=h0;have k1:=h1;have k2:=h2;have k3:=h3;have k4:=h4;obtain ⟨vs0,x0,rfl,hS0⟩:=zNs (hval 0 29 v0 rfl rfl) h0;obtain ⟨x1,rfl,rfl,rfl,wx1⟩:=open_int Tryz.underlying3 (hval 1 3 v1 rfl rfl) h1;obtain ⟨x2,rfl,rfl,rfl,wx2⟩:=open_int Tryz.underlying3 (hval 2 3 v2 rfl rfl) h2;obtain ⟨x3,rfl,rfl,rfl⟩:=open_bool Tryz.underlying4 (hval 3 4 v3 rfl rfl) h3;obtain ⟨ng4,A4,n4,c4,l4,ex4,rfl,hS4⟩:=zSE (hval 4 41 v4 rfl rfl) h4;clear hA0;refine (zLC vs0 [.bool ng4,.slice A4 n4 c4,.int .i64 ex4] x0 x1 x2 x3 ⟨ng4,l4,ex4⟩ W hS0 ⟨A4,n4,c4,rfl,hS4⟩ (zLm hL).1 (zLm hL).2).mono fun e W' ⟨he,hg⟩=>?_
 subst he;refine ⟨_,rfl,zFA hW' (fun _ _ _=>trodAll_mk1 (shut_bool Tryz.underlying4 _)) (fun sp hsp=>trodAll_mk5 (stays (by kernel_rfl) (by kernel_rfl) k0 hg (fun y hy=>?_) (fun y hy=>?_)) (stays (by kernel_rfl) (by kernel_rfl) k1 hg (fun y hy=>?_) (fun y hy=>?_)) (stays (by kernel_rfl) (by kernel_rfl) k2 hg (fun y hy=>?_) (fun y hy=>?_)) (stays (by kernel_rfl) (by kernel_rfl) k3 hg (fun y hy=>?_) (fun y hy=>?_)) (stays (by kernel_rfl) (by kernel_rfl) k4 hg (fun y hy=>?_) (fun y hy=>?_))) (fun _ _=>rfl) (by simp) hg (ok_one (by kernel_rfl) rfl (okWide_bool_mk Tryz.underlying4 _))⟩
 all_goals first | exact hlt y (by simp_all) | exact hsp y (by simp_all)
theorem reads (os:Os) {H:Type}(enc:TypeId×Value->H):∃places,DataW.whole enc Tryz.prog ((zCg os).forCall (fun _ _=>0) ⟨#[],#[.agg #[.int .i64 0,.int .i64 0,.slice none 0 0,.slice none 0 0,.slice none 0 0,.slice none 0 0],.int .i64 0,.int .i64 0,.bool false,.agg #[.bool false,.slice none 0 0,.int .i64 0]],[]⟩).memory Tryz.f4.params.toList Rows.certifySpoilsSpec.vars false (#[.agg #[.int .i64 0,.int .i64 0,.slice none 0 0,.slice none 0 0,.slice none 0 0,.slice none 0 0],.int .i64 0,.int .i64 0,.bool false,.agg #[.bool false,.slice none 0 0,.int .i64 0]]:Array Value).toList 8=some ([.agg [.lit (.int .i64 0),.lit (.int .i64 0),.agg [.nil,.nil,.nil],.nil],.lit (.int .i64 0),.lit (.int .i64 0),.lit (.bool false),.agg [.lit (.bool false),.nil,.lit (.int .i64 0)]],[],places):=
 ⟨[],by kernel_rfl⟩
set_option maxRecDepth 100000 in
theorem lifted (os:Os) (started:os.Started) (H:Type) (enc:TypeId×Value->H) (F:Stop.Interp) :
  ReturnsInHanded {} Tryz.checked os 4 .any ((OpenSpec.ofChange Rows.certifySpoilsSpec).preRow enc Tryz.prog Tryz.f4 Rows.certifySpoilsRow.domain false Rows.certifySpoilsRow.laid) (((OpenSpec.ofChange Rows.certifySpoilsSpec).at F).post enc Tryz.prog Tryz.f4 false true false false):=by
 obtain ⟨places,hx⟩:=reads os enc;refine returnsInHanded_of_row (C:=Tryz.checked) (s:=OpenSpec.ofChange Rows.certifySpoilsSpec) zf6 started (by kernel_rfl) Tryz.func4
  (witness_row_at (enc:=enc) (C:=Tryz.checked) false (zCg os) #[.agg #[.int .i64 0,.int .i64 0,.slice none 0 0,.slice none 0 0,.slice none 0 0,.slice none 0 0],.int .i64 0,.int .i64 0,.bool false,.agg #[.bool false,.slice none 0 0,.int .i64 0]] rfl (by kernel_rfl) (by kernel_rfl) (by kernel_rfl)
   (OpenSpec.preRow_of_cond 8 hx (by kernel_rfl) (fun k hk=>by cases hk) (by kernel_rfl) (zH1 os _))) ?_
 intro W base args ds gs before hval hW _ _ _ hL _ _;exact contract H enc W base args ds gs before hval hW hL
set_option maxRecDepth 100000 in
theorem said:Rows.CertifySpoilsSaid:=
 OpenClaim.holds_of_cond 4 Tryz.f4 rfl rfl rfl rfl rfl rfl rfl ⟨rfl,rfl,rfl,rfl,rfl⟩ rfl rfl rfl rfl rfl (by kernel_rfl) Tryz.func4 FSpoi.joined2
  (of_decide_eq_true (by kernel_rfl)) (by unfold Func.isWrapper;first | (rw [if_pos (by decide +kernel)];kernel_rfl) | (rw [if_neg (by decide +kernel)];exact ⟨rfl,rfl⟩))
  (fun os started H enc _ F=>by rw [OpenClaim.pre_eq_preRow];exact lifted os started H enc F)
theorem plain (f:FuncId) (fn:Func) (hf:Tryz.pinned.checked.prog.funcNamed "flowpipe/flowpipelaw47.CertifySpoils" = some f) (hfn:Tryz.pinned.checked.prog.funcs[f]? = some fn) :
  true=Tryz.pinned.checked.prog.looks []/\∀ (j:Nat) t,fn.params[j]? = some t->Tryz.pinned.checked.prog.wantsStandIn t=false:=by
 obtain rfl:f=4:=Option.some.inj ((show Tryz.prog.funcNamed "flowpipe/flowpipelaw47.CertifySpoils" = some 4 by kernel_rfl).symm.trans hf) |>.symm;obtain rfl:fn=Tryz.f4:=(Option.some.inj (Tryz.func4.symm.trans hfn)).symm;refine ⟨by kernel_rfl,fun j t ht=>?_⟩;rw [Tryz.params4] at ht;have hm:t=29\/t=3\/t=3\/t=4\/t=41:=by simpa using Array.mem_of_getElem? ht
 rcases hm with rfl | rfl | rfl | rfl | rfl
 ·exact (show Tryz.prog.wantsStandIn 29=false by kernel_rfl)
 ·exact (show Tryz.prog.wantsStandIn 3=false by kernel_rfl)
 ·exact (show Tryz.prog.wantsStandIn 3=false by kernel_rfl)
 ·exact (show Tryz.prog.wantsStandIn 4=false by kernel_rfl)
 ·exact (show Tryz.prog.wantsStandIn 41=false by kernel_rfl)
theorem card:Rows.CertifySpoilsCardSaid:=
 Claim7.holds_tied_plain_at .later [] _ _ _ _ said (fun _ h=>by cases h) (by kernel_rfl) (fun _ h=>by cases h) certifySpoils_row_tie rfl ⟨rfl,rfl⟩ (by kernel_rfl) rfl plain FSpoi.goes
end Go.Proofs.YtchkfjgcbbbffaaGreatDoor.cspoils
