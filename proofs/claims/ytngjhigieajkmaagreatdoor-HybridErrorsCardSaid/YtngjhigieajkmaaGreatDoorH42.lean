/- Bundle 42: what the law's walk stands on: FHErr5. -/
import Derived.Test.YtngjhigieajkmaaGreatDoorCards
import Derived.ProofKit
import Derived.JoinedCond
import Derived.Test.YtngjhigieajkmaaGreatDoorH4
import Derived.Test.YtngjhigieajkmaaGreatDoorH38
import Derived.Test.YtngjhigieajkmaaGreatDoorH39
import Derived.Test.YtngjhigieajkmaaGreatDoorH40
import Derived.Test.YtngjhigieajkmaaGreatDoorH41
set_option maxRecDepth 100000
set_option maxHeartbeats 20000000
set_option linter.all false
noncomputable section
namespace Go.Proofs.YtngjhigieajkmaaGreatDoor.FHErr
open Go.ChangeShapes Go.WideShapes Go.ChangeAt Go.RowKit
abbrev R:=Rows.hybridErrorsRow
abbrev S:=Rows.hybridErrorsSpec
abbrev P:=Tryz.prog
abbrev G:=Tryz.f3
abbrev V:=G.params.toList++S.plain.varTypes P
abbrev W:=V++G.resultTypes.toList
theorem c1:R.wf (OpenSpec.ofChange S)=true:=by kernel_rfl
theorem c2:laidOutB P=true:=zQN
theorem c3:mapsRowed P=true:=by kernel_rfl
theorem c4:G.params.all (P.readableRec ·)=true:=by kernel_rfl
theorem c5:namedTie P R.named S.vars=true:=by kernel_rfl
theorem c7:(P.stops == [])=true:=by kernel_rfl
theorem c9:(P.stopKnobs == [])=true:=by kernel_rfl
theorem c14:(R.maps == V.any (P.mapsRec ·))=true:=by kernel_rfl
theorem c15:(R.ifaces == V.any (P.ifacesRec ·))=true:=by kernel_rfl
theorem c16:(R.mapsOut == P.mapsAmong G.resultTypes.toList)=true:=by kernel_rfl
theorem c17:(R.loops == V.any (P.loopsFrom ·))=true:=by kernel_rfl
theorem c18:(R.wideKeys == W.any (P.wideKeysFrom ·))=true:=by kernel_rfl
theorem c19:S.vars.all (P.varReadable ·)=true:=by kernel_rfl
theorem c20:G.resultTypes.all (fun t=>P.readableRec t && decide (t<P.types.size))=true:=by kernel_rfl
theorem c21:(R.ifacesOut == G.resultTypes.toList.any (P.ifacesRec ·))=true:=by kernel_rfl
theorem c22:(R.loopsOut == G.resultTypes.toList.any (P.loopsFrom ·))=true:=by kernel_rfl
theorem c23:(R.plainKeys == P.plainKeys)=true:=by kernel_rfl
theorem c25:P.stopsHeard=true:=by kernel_rfl
theorem c26:P.mayEnter=true:=by kernel_rfl
theorem c27:(R.lifted == P.liftsFinal)=true:=by kernel_rfl
theorem c28:(P.make == some R.make)=true:=by kernel_rfl
theorem c31:(R.veiled == W.any (P.veiledRec ·))=true:=by kernel_rfl
theorem c32:R.veiledFits P G.params.toList W=true:=by kernel_rfl
theorem zAo {a b:Bool}(h:a=true) (k:b=true):(a && b)=true:=by rw [h,k];rfl
theorem zOG:joinedFacts P 3 G S R=true:=by
 unfold joinedFacts;exact zAo (zAo (zAo (zAo (zAo (zAo (zAo (zAo (zAo (zAo (zAo (zAo (zAo (zAo (zAo (zAo (zAo (zAo (zAo (zAo (zAo (zAo (zAo (zAo (zAo (zAo (zAo (zAo (zAo (zAo (zAo (c1) c2) c3) c4) c5) (by kernel_rfl)) c7) (by kernel_rfl)) c9) c10) c11) c12) c13) c14) c15) c16) c17) c18) c19) c20) c21) c22) c23) (by kernel_rfl)) c25) c26) c27) c28) (by kernel_rfl)) (by kernel_rfl)) c31) c32
theorem joined2:joinedFacts Tryz.pinned.checked.prog 3 G (OpenSpec.ofChange S).bare R=true:=Eq.trans (show joinedFacts Tryz.pinned.checked.prog 3 G (OpenSpec.ofChange S).bare R=joinedFacts P 3 G S R by kernel_rfl) zOG
theorem zGw:P.funcs.any Func.goes=false:=by kernel_rfl
theorem zKx {P:Program}{f:FuncId}(h:P.funcs.any Func.goes=false):P.goes f=false:=by
 have key:∀g:Nat,(P.funcs[g]?).any Func.goes=false:=by
  intro g;cases hg:P.funcs[g]? with
  | none=>rfl
  | some fn=>
   have:=Array.any_eq_false.1 h;obtain ⟨hl,e⟩:=Array.getElem?_eq_some_iff.1 hg;have h2:=this g hl;rw [e] at h2
   simpa using h2
 unfold Program.goes;rw [h,Bool.and_false,Bool.or_false,List.any_eq_false];intro g _;rw [key g];decide
theorem zSM:false=R.goesBy P:=by
 show false=(((P.funcNamed R.func).any P.goes) || false)
 rw [Bool.or_false];cases h:P.funcNamed R.func with
 | none=>rfl
 | some f=>rw [Option.any_some,zKx (P:=P) (f:=f) zGw]
theorem goes:false=R.goesBy Tryz.pinned.checked.prog:=zSM.trans (show R.goesBy P=R.goesBy Tryz.pinned.checked.prog by kernel_rfl)
end Go.Proofs.YtngjhigieajkmaaGreatDoor.FHErr
end
