/- Bundle 23: what the law's walk stands on: T4t. -/
import Derived.Defers
import Derived.Recover
import Derived.Test.YtngjhigieajkmaaGreatDoorH21
import Derived.Test.YtngjhigieajkmaaGreatDoorH22
set_option maxRecDepth 100000
set_option maxHeartbeats 20000000
set_option linter.all false
noncomputable section
namespace Go.Proofs.YtngjhigieajkmaaGreatDoor
open Go.RowKit Pl Go.Shelf
theorem zHp (p q:Addr) (w:World) :
  CallsD Tryz.prog 80 #[.pointer (some p),.pointer (some q)] .returning w fun e u' w'=>(∃v,e=.returned v)/\u' = .returning/\w' = w:=by
 refine callsD_of_wpS Tryz.func80 rfl fun c₀ cs hu=>?_
 apply wpS_seq
 apply wpS_region
 simp [wpOpsS,go_sem,recoverD,hu,Tryz.ntmps80,Exit.thenS];refine wpS_of_wp ?_;rw [show (#[Value.pointer (some p),.pointer (some q)]++(((Array.replicate 16 undef).setIfInBounds 3 (Value.nilIface)).setIfInBounds 0 (Value.nilIface)))=#[Value.pointer (some p),.pointer (some q),.nilIface,undef,undef,.nilIface,undef,undef,undef,undef,undef,undef,undef,undef,undef,undef,undef,undef] from by kernel_rfl];go_wp2_with fail
 cases c₀
 simp_all [bodyPostS,results,Tryz.results80]
def ckT (T:Tm):Bool:=match look T 2,look T 3,look T 15 with | .ptr _ _,.ptr _ _,.any=>true | _,_,_=>false
theorem zTx {ι:Io}{fz:Nat->Prop}{w:World}{T:Tm}{a:Act}(hT:zFN ι fz w T a) (h:ckT T=true):(∃p,a.tmps.getD 2 undef=.pointer (some p))/\(∃q,a.tmps.getD 3 undef=.pointer (some q))/\look T 15=.any:=by
 have h2:=hT 2;have h3:=hT 3;generalize a.tmps.getD 2 undef=v2 at h2 ⊢;generalize a.tmps.getD 3 undef=v3 at h3 ⊢;unfold ckT at h
 split at h
 ·rename_i e2 e3 e15
  rw [e2] at h2;rw [e3] at h3;cases h2;cases h3;exact ⟨⟨_,rfl⟩,⟨_,rfl⟩,e15⟩
 ·cases h
end Go.Proofs.YtngjhigieajkmaaGreatDoor
end
