/- HybridErrors: for every input the law returns true, and each argument reads as it read before: the row, and the card that ties its listed tables to the program's text. (Printed by gen_p.py.) -/
import Derived.Test.YtngjhigieajkmaaGreatDoorH12
import Derived.Test.YtngjhigieajkmaaGreatDoorH37
import Derived.Test.YtngjhigieajkmaaGreatDoorH42
import Derived.Test.YtngjhigieajkmaaGreatDoorH47
namespace Go.Proofs.YtngjhigieajkmaaGreatDoor.herr
open Go.ChangeShapes Go.WideShapes Go.ChangeAt Go.RowKit Go.Shelf Pl
set_option maxRecDepth 100000 in
theorem contract (H:Type) (enc:TypeId×Value->H) (W:World) (base:Nat) (args:Array Value) (ds gs:List (DataW H)) (before:List MemPlace)
  (hval:∀ (j:Nat) t v,Tryz.f3.params[j]? = some t->args[j]? = some v->Value.okWide Tryz.prog W .any base t v)
  (hW:DataW.Whole enc Tryz.prog Tryz.f3.params.toList Rows.hybridErrorsSpec.vars false W args.toList ds gs before) (hL:laidMetH Tryz.prog Rows.hybridErrorsRow.laid W) :
  Calls Tryz.prog 3 args W fun e W'=>∃v,e=.returned v/\Rows.hybridErrorsSpec.post enc Tryz.prog Tryz.f3 false true false false W args v W':=by
 have hlt:∀p∈before,p.block<W.heap.size:=fun p hp=>hW.lt p hp
 have hW':=hW;obtain ⟨p,q,hA0,hV,rfl,hfz,hnd⟩:=hW;have hA:DataW.TrodAll enc Tryz.prog W 0 (fun _=>true) true Tryz.f3.params.toList args.toList ds p:=hA0;rw [Tryz.params3] at hA hval;obtain ⟨v0,v1,d0,d1,p0,p1,rfl,rfl,rfl,h0,h1⟩:=trodAll_two hA;obtain ⟨rfl,rfl⟩:=trodVars_none hV;have k0:=h0;have k1:=h1;obtain ⟨dx,us,x0,rfl,hS0,hZ0⟩:=zvL (hval 0 27 v0 rfl rfl) h0;obtain ⟨me,od,pr,tl,mo,us1,x1,rfl,hS1⟩:=zuP (hval 1 32 v1 rfl rfl) h1;clear hA0;refine (zr8 dx us x0 me od pr tl mo us1 x1 W hS0 hZ0 hS1 (zLm hL).1 (zLm hL).2).mono fun e W' ⟨he,hg⟩=>?_
 subst he;refine ⟨_,rfl,zFA hW' (fun _ _ _=>trodAll_mk1 (shut_bool Tryz.underlying4 _)) (fun sp hsp=>trodAll_mk2 (stays (by kernel_rfl) (by kernel_rfl) k0 hg (fun y hy=>?_) (fun y hy=>?_)) (stays (by kernel_rfl) (by kernel_rfl) k1 hg (fun y hy=>?_) (fun y hy=>?_))) (fun _ _=>rfl) (by simp) hg (ok_one (by kernel_rfl) rfl (okWide_bool_mk Tryz.underlying4 _))⟩
 all_goals first | exact hlt y (by simp_all) | exact hsp y (by simp_all)
theorem reads (os:Os) {H:Type}(enc:TypeId×Value->H):∃places,DataW.whole enc Tryz.prog ((zrF os).forCall (fun _ _=>0) ⟨#[],#[.agg #[.slice none 0 0,.slice none 0 0,.slice none 0 0,.int .i64 0,.int .i64 0],.agg #[.int .i64 0,.int .i64 0,.int .i64 0,.bool false,.slice none 0 0,.int .i64 0,.int .i64 0,.int .i64 0]],[]⟩).memory Tryz.f3.params.toList Rows.hybridErrorsSpec.vars false (#[.agg #[.slice none 0 0,.slice none 0 0,.slice none 0 0,.int .i64 0,.int .i64 0],.agg #[.int .i64 0,.int .i64 0,.int .i64 0,.bool false,.slice none 0 0,.int .i64 0,.int .i64 0,.int .i64 0]]:Array Value).toList 8=some ([.agg [.nil,.nil,.nil,.agg [.lit (.int .i64 0),.lit (.int .i64 0)]],.agg [.lit (.int .i64 0),.lit (.int .i64 0),.lit (.int .i64 0),.agg [.lit (.bool false),.nil,.lit (.int .i64 0)],.lit (.int .i64 0),.lit (.int .i64 0)]],[],places):=
 ⟨[],by kernel_rfl⟩
set_option maxRecDepth 100000 in
theorem lifted (os:Os) (started:os.Started) (H:Type) (enc:TypeId×Value->H) (F:Stop.Interp) :
  ReturnsInHanded {} Tryz.checked os 3 .any ((OpenSpec.ofChange Rows.hybridErrorsSpec).preRow enc Tryz.prog Tryz.f3 Rows.hybridErrorsRow.domain false Rows.hybridErrorsRow.laid) (((OpenSpec.ofChange Rows.hybridErrorsSpec).at F).post enc Tryz.prog Tryz.f3 false true false false):=by
 obtain ⟨places,hx⟩:=reads os enc;refine returnsInHanded_of_row (C:=Tryz.checked) (s:=OpenSpec.ofChange Rows.hybridErrorsSpec) zf6 started (by kernel_rfl) Tryz.func3
  (witness_row_at (enc:=enc) (C:=Tryz.checked) false (zrF os) #[.agg #[.slice none 0 0,.slice none 0 0,.slice none 0 0,.int .i64 0,.int .i64 0],.agg #[.int .i64 0,.int .i64 0,.int .i64 0,.bool false,.slice none 0 0,.int .i64 0,.int .i64 0,.int .i64 0]] rfl (by kernel_rfl) (by kernel_rfl) (by kernel_rfl)
   (OpenSpec.preRow_of_cond 8 hx (by kernel_rfl) (fun k hk=>by cases hk) (by kernel_rfl) (zs5 os _))) ?_
 intro W base args ds gs before hval hW _ _ _ hL _ _;exact contract H enc W base args ds gs before hval hW hL
set_option maxRecDepth 100000 in
theorem said:Rows.HybridErrorsSaid:=
 OpenClaim.holds_of_cond 3 Tryz.f3 rfl rfl rfl rfl rfl rfl rfl ⟨rfl,rfl,rfl,rfl,rfl⟩ rfl rfl rfl rfl rfl (by kernel_rfl) Tryz.func3 FHErr.joined2
  (of_decide_eq_true (by kernel_rfl)) (by unfold Func.isWrapper;first | (rw [if_pos (by decide +kernel)];kernel_rfl) | (rw [if_neg (by decide +kernel)];exact ⟨rfl,rfl⟩))
  (fun os started H enc _ F=>by rw [OpenClaim.pre_eq_preRow];exact lifted os started H enc F)
theorem plain (f:FuncId) (fn:Func) (hf:Tryz.pinned.checked.prog.funcNamed "flowpipe/flowpipelaw42.HybridErrors" = some f) (hfn:Tryz.pinned.checked.prog.funcs[f]? = some fn) :
  true=Tryz.pinned.checked.prog.looks []/\∀ (j:Nat) t,fn.params[j]? = some t->Tryz.pinned.checked.prog.wantsStandIn t=false:=by
 obtain rfl:f=3:=Option.some.inj ((show Tryz.prog.funcNamed "flowpipe/flowpipelaw42.HybridErrors" = some 3 by kernel_rfl).symm.trans hf) |>.symm;obtain rfl:fn=Tryz.f3:=(Option.some.inj (Tryz.func3.symm.trans hfn)).symm;refine ⟨by kernel_rfl,fun j t ht=>?_⟩;rw [Tryz.params3] at ht;have hm:t=27\/t=32:=by simpa using Array.mem_of_getElem? ht
 rcases hm with rfl | rfl
 ·exact (show Tryz.prog.wantsStandIn 27=false by kernel_rfl)
 ·exact (show Tryz.prog.wantsStandIn 32=false by kernel_rfl)
theorem card:Rows.HybridErrorsCardSaid:=
 Claim7.holds_tied_plain_at .later [] _ _ _ _ said (fun _ h=>by cases h) (by kernel_rfl) (fun _ h=>by cases h) ztm rfl ⟨rfl,rfl⟩ (by kernel_rfl) rfl plain FHErr.goes
end Go.Proofs.YtngjhigieajkmaaGreatDoor.herr
