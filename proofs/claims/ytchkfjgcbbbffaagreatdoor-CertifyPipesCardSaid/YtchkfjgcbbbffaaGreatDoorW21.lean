/- Bundle 21: what the law's walk stands on: T4t. -/
import Derived.Defers
import Derived.Recover
import Derived.Test.YtchkfjgcbbbffaaGreatDoorW19
import Derived.Test.YtchkfjgcbbbffaaGreatDoorW20
set_option maxRecDepth 100000
set_option maxHeartbeats 20000000
set_option linter.all false
noncomputable section
namespace Go.Proofs.YtchkfjgcbbbffaaGreatDoor
open Go.RowKit Pl Go.Shelf
theorem zHp (p q:Addr) (w:World) :
  CallsD Tryz.prog 197 #[.pointer (some p),.pointer (some q)] .returning w fun e u' w'=>(∃v,e=.returned v)/\u' = .returning/\w' = w:=by
 refine callsD_of_wpS Tryz.func197 rfl fun c₀ cs hu=>?_
 apply wpS_seq
 apply wpS_region
 simp [wpOpsS,go_sem,recoverD,hu,Tryz.ntmps197,Exit.thenS];refine wpS_of_wp ?_;rw [show (#[Value.pointer (some p),.pointer (some q)]++(((Array.replicate 16 undef).setIfInBounds 3 (Value.nilIface)).setIfInBounds 0 (Value.nilIface)))=#[Value.pointer (some p),.pointer (some q),.nilIface,undef,undef,.nilIface,undef,undef,undef,undef,undef,undef,undef,undef,undef,undef,undef,undef] from by kernel_rfl];go_wp2_with fail
 cases c₀
 simp_all [bodyPostS,results,Tryz.results197]
#print axioms zHp
def zFy:ME:=⟨2,[(none,5),(some 0,5)],[.agg [.i .i64 (.ofNat 7),.i .i64 (.ofNat 0),.i .i64 (.ofNat 0),.v (.string ⟨#[]⟩),.i .i64 (.ofNat 0),.sl 0 0 1 6 (some 1)]],
 [(1,.cells [.i .i64 (.ofNat 2),.i .i64 (.ofNat 0),.i .i64 (.ofNat 0),.v (.string ⟨#[120]⟩),.i .i64 (.ofNat 0),.v (.slice none 0 0)]),(0,.cells [.i .i64 (.ofNat 8),.i .i64 (.ofNat 0),.i .i64 (.ofNat 0),.v (.string ⟨#[]⟩),.i .i64 (.ofNat 2),.sl 1 0 1 6 (some 1)])],
 .fsl [.v (.string ⟨#[120]⟩)] 1,[],2⟩
def zRa:ME:=⟨5,[(none,0),(none,2),(some 1,1),(some 2,6),(some 3,5)],[.agg [.sl 0 0 1 5 none,.v (.slice none 0 0),.sl 1 0 1 3 (some 1),.i .i64 (.ofNat 1),.i .i64 (.ofNat 8)]],
 [(4,.cells [.i .i64 (.ofNat 2),.i .i64 (.ofNat 0),.i .i64 (.ofNat 0),.v (.string ⟨#[120]⟩),.i .i64 (.ofNat 0),.v (.slice none 0 0)]),(3,.cells [.i .i64 (.ofNat 8),.i .i64 (.ofNat 0),.i .i64 (.ofNat 0),.v (.string ⟨#[]⟩),.i .i64 (.ofNat 2),.sl 4 0 1 6 (some 1)]),(2,.cells [.v (.string ⟨#[120]⟩),.i .i64 (.ofNat 7),.i .i64 (.ofNat 0),.i .i64 (.ofNat 0),.v (.string ⟨#[]⟩),.i .i64 (.ofNat 0),.sl 3 0 1 6 (some 1)]),(1,.cells [.v (.string ⟨#[114,117,110]⟩),.sl 2 0 1 7 none,.v (.slice none 0 0)]),(0,.cells [.v (.string ⟨#[120]⟩),.i .i64 (.ofNat 1),.i .i64 (.ofNat 1),.i .i64 (.ofNat 1),.i .i64 (.ofNat 1)])],
 .tup [.agg [.i .i64 (.ofNat 0),.v (.string ⟨#[]⟩)],.b false],[],63⟩
def ckT (T:Tm):Bool:=match look T 2,look T 3,look T 15 with | .ptr _ _,.ptr _ _,.any=>true | _,_,_=>false
theorem zTx {ι:Io}{fz:Nat->Prop}{w:World}{T:Tm}{a:Act}(hT:zFN ι fz w T a) (h:ckT T=true):(∃p,a.tmps.getD 2 undef=.pointer (some p))/\(∃q,a.tmps.getD 3 undef=.pointer (some q))/\look T 15=.any:=by
 have h2:=hT 2;have h3:=hT 3;generalize a.tmps.getD 2 undef=v2 at h2 ⊢;generalize a.tmps.getD 3 undef=v3 at h3 ⊢;unfold ckT at h
 split at h
 ·rename_i e2 e3 e15
  rw [e2] at h2;rw [e3] at h3;cases h2;cases h3;exact ⟨⟨_,rfl⟩,⟨_,rfl⟩,e15⟩
 ·cases h
theorem zJw (hN:zAK Tryz.prog glo 320 zFy):zAK Tryz.prog glo 134 zRa:=by
 refine ⟨by kernel_rfl,?_⟩;refine zMO (m:=100000) (gc:=1) (tst:=ckT) (zAM [(320,[zFy])] (zAD (zAC hN (zAJ _ _ _)) (zAI _ _))) Tryz.func134 (by kernel_rfl) rfl (by kernel_rfl) (by kernel_rfl) ?_ (by kernel_rfl);intro ι fz w T a hT hz hd ht Q hQ;obtain ⟨⟨p,hp⟩,⟨q,hq⟩,h15⟩:=zTx hT ht;refine wp_region_list ?_;have h15':15<a.tmps.size:=Yh (by show 15<113;omega) hz;simp only [Array.getD_eq_getD_getElem?] at hp hq;simp [wpList,go_sem,Act.eval,hp,hq,h15'];refine .inl (.inl (hQ _ (by simp) (fun t=>?_) ⟨_,by simp only [hd];rfl,fun w1=>⟨_,_,_,_,rfl,rfl,zHp p q w1⟩⟩));by_cases e:t=15
 ·subst e
  rw [h15];exact .any _
 ·have:=hT t
  simp only [Array.getD_eq_getD_getElem?,Array.getElem?_setIfInBounds] at this ⊢;rw [if_neg (fun h=>e h.symm)];exact this
#print axioms zJw
end Go.Proofs.YtchkfjgcbbbffaaGreatDoor
end
