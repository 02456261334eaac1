/- Bundle 24: what the law's walk stands on: V1t. -/
import Derived.Test.YtngjhigieajkmaaGreatDoorH23
set_option maxRecDepth 100000
set_option maxHeartbeats 20000000
set_option linter.all false
noncomputable section
namespace Go.Proofs.YtngjhigieajkmaaGreatDoor
def mE0:ME:=⟨6,[(none,0),(none,2),((some 1),1),((some 1),2),((some 3),5),((some 3),8)],[.agg [.sl 0 0 1 5 (some 1),.v (.slice none 0 0),.sl 1 0 1 3 (some 1),cI 1,cI 1]],[(5,.cells [.v (.string ⟨#[120]⟩),cI 1,cI 0,cI 1,.v (.string ⟨#[]⟩),cI 0,.v (.slice none 0 0)]),(4,.cells [cI 2,cI 0,cI 0,.v (.string ⟨#[120]⟩),cI 0,.v (.slice none 0 0),cI 1,cI 771,cI 1024,.v (.string ⟨#[]⟩),cI 0,.v (.slice none 0 0)]),(3,.cells [cI 4,cI 0,cI 0,.v (.string ⟨#[]⟩),cI 0,.sl 4 0 2 6 (some 2),cI 1,.v (.string ⟨#[114,117,110]⟩),.sl 5 0 1 7 (some 1)]),(2,.cells [.v (.string ⟨#[120]⟩),cI 1,cI 1,cI 1,.v (.string ⟨#[]⟩),cI 0,.v (.slice none 0 0)]),(1,.cells [.v (.string ⟨#[114,117,110]⟩),.sl 2 0 1 7 (some 1),.sl 3 0 1 9 (some 1)]),(0,.cells [.v (.string ⟨#[120]⟩),cI 0,cI 1,cI 0,cI 1])],.tup [.agg [cI 0,.v (.string ⟨#[]⟩)],cF],[(77,.cells [.v (.string ⟨#[114,117,110]⟩),.sl 2 0 1 7 (some 1),.sl 3 0 1 9 (some 1)]),(72,.cells [.v (.string ⟨#[120]⟩),cI 0,cI 1,cI 0,cI 1]),(71,.cells [.v (.string ⟨#[120]⟩),cI 0,cI 1,cI 0,cI 1]),(69,.cells [.sl 0 0 1 5 (some 1),.v (.slice none 0 0)]),(68,.cells [.v (.string ⟨#[114,117,110]⟩)]),(67,.cells [.v (.string ⟨#[114,117,110]⟩)]),(66,.cells [.v (.string ⟨#[114,117,110]⟩),.sl 2 0 1 7 (some 1),.sl 3 0 1 9 (some 1)]),(65,.cells [.v (.string ⟨#[120]⟩)]),(63,.cells [.v (.string ⟨#[120]⟩)]),(62,.cells [.v (.string ⟨#[120]⟩)]),(61,.cells [.v (.string ⟨#[120]⟩),cI 0,cI 1,cI 0,cI 1]),(60,.cells [.sl 63 0 1 1 none,.sl 65 0 1 1 none,.sl 68 0 1 1 none]),(8,.cells [cF]),(7,.cells [cI 0,.v (.string ⟨#[]⟩)]),(6,.cells [.sl 0 0 1 5 (some 1),.v (.slice none 0 0),.sl 1 0 1 3 (some 1),cI 1,cI 1])],91⟩
theorem mO0:zAK Tryz.prog glo 48 mE0:=by
 refine ⟨by kernel_rfl,?_⟩;refine zMO (m:=100000) (gc:=0) (tst:=ckT) (zAM [] (zAI _ _)) Tryz.func48 (by kernel_rfl) rfl (by kernel_rfl) (by kernel_rfl) ?_ (by kernel_rfl);intro ι fz w T a hT hz hd ht Q hQ;obtain ⟨⟨p,hp⟩,⟨q,hq⟩,h15⟩:=zTx hT ht;refine wp_region_list ?_;have h15':15<a.tmps.size:=Yh (by show 15<113;omega) hz;simp only [Array.getD_eq_getD_getElem?] at hp hq;simp [wpList,go_sem,Act.eval,hp,hq,h15'];refine .inl (.inl (hQ _ (by simp) (fun t=>?_) ⟨_,by simp only [hd];rfl,fun w1=>⟨_,_,_,_,rfl,rfl,zHp p q w1⟩⟩));by_cases e:t=15
 ·subst e
  rw [h15];exact .any _
 ·have:=hT t
  simp only [Array.getD_eq_getD_getElem?,Array.getElem?_setIfInBounds] at this ⊢;rw [if_neg (fun h=>e h.symm)];exact this
def mE3:ME:=⟨3,[(none,1),(none,2),(none,5)],[.agg [cI 1,.sl 0 0 1 6 none,.sl 1 0 1 1 none,cI 1,.v (.slice none 0 0)],.sl 2 0 1 7 none,cI 4,cI 50],[(2,.cells [cF,.v (.slice none 0 0),cI 0,cF,.v (.slice none 0 0),cI 0,cF]),(1,.cells [cI 1]),(0,.cells [cI 1,cI 0,cI 0,cI 0,cI 1,cI 1])],.tup [.sl 16 0 1 1 none,cI 0],[(720,.cells [cF,.v (.slice none 0 0),cI 0,cF,.v (.slice none 0 0),cI 0,cF,cF,.lim 1,cI 0,cF,.lim 1,cI 0,cF,cF,.v (.slice none 0 0),cI 0,cF,.v (.slice none 0 0),cI 0,cF,cF,.v (.slice none 0 0),cI 0,cF,.v (.slice none 0 0),cI 0,cF,cF,.v (.slice none 0 0),cI 0,cF,.v (.slice none 0 0),cI 0,cF]),(16,.cells [.sl 720 0 5 7 none])],721⟩
theorem mO3:zAK Tryz.prog glo 247 mE3:=
 (zAM [] (zAI _ _)).entry 100000 247 mE3 (by kernel_rfl) (by kernel_rfl)
def mE4:ME:=⟨7,[(none,1),(none,2),(none,3),(none,4),((some 0),0),((some 1),1),((some 1),2)],[cJ 8,.ptr 0 0,.ptr 1 0,.ptr 2 0,.ptr 3 0],[(6,.cells [cI 1]),(5,.cells [cI 1,cI 0,cI 0,cI 0,cI 1,cI 1]),(4,.cells [cF,.v (.slice none 0 0),cI 0,cF,.v (.slice none 0 0),cI 0,cF]),(3,.cells [cI 50]),(2,.cells [cF,.lim 1,cJ 2]),(1,.cells [cI 1,.sl 5 0 1 6 none,.sl 6 0 1 1 none,cI 1,.v (.slice none 0 0)]),(0,.cells [.sl 4 0 1 7 none])],.tup [.sl 15 0 1 7 none,cF],[(15,.cells [cT,.lim 1,cJ 8,cF,.lim 1,cJ 8,cF])],304⟩
theorem mO4:zAK Tryz.prog glo 251 mE4:=
 (zAM [] (zAI _ _)).entry 100000 251 mE4 (by kernel_rfl) (by kernel_rfl)
def mE5:ME:=⟨7,[(none,1),(none,2),(none,3),(none,4),((some 0),0),((some 1),1),((some 1),2)],[cJ 7,.ptr 0 0,.ptr 1 0,.ptr 2 0,.ptr 3 0],[(6,.cells [cI 1]),(5,.cells [cI 1,cI 0,cI 0,cI 0,cI 1,cI 1]),(4,.cells [cF,.v (.slice none 0 0),cI 0,cF,.v (.slice none 0 0),cI 0,cF]),(3,.cells [cI 50]),(2,.cells [cF,.lim 1,cJ 2]),(1,.cells [cI 1,.sl 5 0 1 6 none,.sl 6 0 1 1 none,cI 1,.v (.slice none 0 0)]),(0,.cells [.sl 4 0 1 7 none])],.tup [.sl 15 0 1 7 none,cF],[(15,.cells [cT,.lim 1,cJ 7,cF,.lim 1,cJ 7,cF])],304⟩
theorem mO5:zAK Tryz.prog glo 251 mE5:=
 (zAM [] (zAI _ _)).entry 100000 251 mE5 (by kernel_rfl) (by kernel_rfl)
def mE6:ME:=⟨7,[(none,1),(none,2),(none,3),(none,4),((some 0),0),((some 1),1),((some 1),2)],[cJ 6,.ptr 0 0,.ptr 1 0,.ptr 2 0,.ptr 3 0],[(6,.cells [cI 1]),(5,.cells [cI 1,cI 0,cI 0,cI 0,cI 1,cI 1]),(4,.cells [cF,.v (.slice none 0 0),cI 0,cF,.v (.slice none 0 0),cI 0,cF]),(3,.cells [cI 50]),(2,.cells [cF,.lim 1,cJ 2]),(1,.cells [cI 1,.sl 5 0 1 6 none,.sl 6 0 1 1 none,cI 1,.v (.slice none 0 0)]),(0,.cells [.sl 4 0 1 7 none])],.tup [.sl 15 0 1 7 none,cF],[(15,.cells [cT,.lim 1,cJ 6,cF,.lim 1,cJ 6,cF])],304⟩
theorem mO6:zAK Tryz.prog glo 251 mE6:=
 (zAM [] (zAI _ _)).entry 100000 251 mE6 (by kernel_rfl) (by kernel_rfl)
def mE7:ME:=⟨7,[(none,1),(none,2),(none,3),(none,4),((some 0),0),((some 1),1),((some 1),2)],[cJ 5,.ptr 0 0,.ptr 1 0,.ptr 2 0,.ptr 3 0],[(6,.cells [cI 1]),(5,.cells [cI 1,cI 0,cI 0,cI 0,cI 1,cI 1]),(4,.cells [cF,.v (.slice none 0 0),cI 0,cF,.v (.slice none 0 0),cI 0,cF]),(3,.cells [cI 50]),(2,.cells [cF,.lim 1,cJ 2]),(1,.cells [cI 1,.sl 5 0 1 6 none,.sl 6 0 1 1 none,cI 1,.v (.slice none 0 0)]),(0,.cells [.sl 4 0 1 7 none])],.tup [.sl 15 0 1 7 none,cF],[(15,.cells [cT,.lim 1,cJ 5,cF,.lim 1,cJ 5,cF])],304⟩
theorem mO7:zAK Tryz.prog glo 251 mE7:=
 (zAM [] (zAI _ _)).entry 100000 251 mE7 (by kernel_rfl) (by kernel_rfl)
def mE8:ME:=⟨7,[(none,1),(none,2),(none,3),(none,4),((some 0),0),((some 1),1),((some 1),2)],[cJ 4,.ptr 0 0,.ptr 1 0,.ptr 2 0,.ptr 3 0],[(6,.cells [cI 1]),(5,.cells [cI 1,cI 0,cI 0,cI 0,cI 1,cI 1]),(4,.cells [cF,.v (.slice none 0 0),cI 0,cF,.v (.slice none 0 0),cI 0,cF]),(3,.cells [cI 50]),(2,.cells [cF,.lim 1,cJ 2]),(1,.cells [cI 1,.sl 5 0 1 6 none,.sl 6 0 1 1 none,cI 1,.v (.slice none 0 0)]),(0,.cells [.sl 4 0 1 7 none])],.tup [.sl 15 0 1 7 none,cF],[(15,.cells [cT,.lim 1,cJ 4,cF,.lim 1,cJ 4,cF])],304⟩
theorem mO8:zAK Tryz.prog glo 251 mE8:=
 (zAM [] (zAI _ _)).entry 100000 251 mE8 (by kernel_rfl) (by kernel_rfl)
def mE9:ME:=⟨7,[(none,1),(none,2),(none,3),(none,4),((some 0),0),((some 1),1),((some 1),2)],[cJ 3,.ptr 0 0,.ptr 1 0,.ptr 2 0,.ptr 3 0],[(6,.cells [cI 1]),(5,.cells [cI 1,cI 0,cI 0,cI 0,cI 1,cI 1]),(4,.cells [cF,.v (.slice none 0 0),cI 0,cF,.v (.slice none 0 0),cI 0,cF]),(3,.cells [cI 50]),(2,.cells [cF,.lim 1,cJ 2]),(1,.cells [cI 1,.sl 5 0 1 6 none,.sl 6 0 1 1 none,cI 1,.v (.slice none 0 0)]),(0,.cells [.sl 4 0 1 7 none])],.tup [.sl 15 0 1 7 none,cF],[(15,.cells [cT,.lim 1,cJ 3,cF,.lim 1,cJ 3,cF])],304⟩
theorem mO9:zAK Tryz.prog glo 251 mE9:=
 (zAM [] (zAI _ _)).entry 100000 251 mE9 (by kernel_rfl) (by kernel_rfl)
def zcg:ME:=⟨4,[(none,1),(none,2),(none,5),(none,9)],[.agg [cI 1,.sl 0 0 1 6 none,.sl 1 0 1 1 none,cI 1,.v (.slice none 0 0)],.sl 2 0 1 7 none,.agg [cF,.lim 1,cJ 2],.sl 3 0 1 7 none,cI 50],[(3,.cells [cT,.lim 1,cJ 2,cF,.lim 1,cJ 2,cF]),(2,.cells [cF,.v (.slice none 0 0),cI 0,cF,.v (.slice none 0 0),cI 0,cF]),(1,.cells [cI 1]),(0,.cells [cI 1,cI 0,cI 0,cI 0,cI 1,cI 1])],cT,[],292⟩
theorem zir:zAK Tryz.prog glo 253 zcg:=
 (zAM [] (zAI _ _)).entry 100000 253 zcg (by kernel_rfl) (by kernel_rfl)
def zcj:ME:=⟨3,[(none,1),(none,2),(none,5)],[.agg [cI 1,.sl 0 0 1 6 none,.sl 1 0 1 1 none,cI 1,.v (.slice none 0 0)],.sl 2 0 1 7 none,cI 4,cI 50],[(2,.cells [cF,.lim 1,cJ 2,cF,.lim 1,cJ 2,cF]),(1,.cells [cI 1]),(0,.cells [cI 1,cI 0,cI 0,cI 0,cI 1,cI 1])],.tup [.sl 16 0 1 1 none,cI 0],[(720,.cells [cF,.lim 1,cJ 2,cF,.lim 1,cJ 2,cF,cF,.lim 1,cI 0,cF,.lim 1,cI 0,cF,cF,.v (.slice none 0 0),cI 0,cF,.v (.slice none 0 0),cI 0,cF,cF,.v (.slice none 0 0),cI 0,cF,.v (.slice none 0 0),cI 0,cF,cF,.v (.slice none 0 0),cI 0,cF,.v (.slice none 0 0),cI 0,cF]),(16,.cells [.sl 720 0 5 7 none])],721⟩
theorem ziu:zAK Tryz.prog glo 247 zcj:=
 (zAM [] (zAI _ _)).entry 100000 247 zcj (by kernel_rfl) (by kernel_rfl)
def zck:ME:=⟨4,[(none,1),(none,2),(none,5),(none,9)],[.agg [cI 1,.sl 0 0 1 6 none,.sl 1 0 1 1 none,cI 1,.v (.slice none 0 0)],.sl 2 0 1 7 none,.agg [cF,.lim 1,cJ 2],.sl 3 0 1 7 none,cI 50],[(3,.cells [cF,.lim 127,cJ 9,cF,.lim 129,cJ 9,cF]),(2,.cells [cF,.lim 1,cJ 2,cF,.lim 1,cJ 2,cF]),(1,.cells [cI 1]),(0,.cells [cI 1,cI 0,cI 0,cI 0,cI 1,cI 1])],cF,[],290⟩
theorem ziv:zAK Tryz.prog glo 253 zck:=
 (zAM [] (zAI _ _)).entry 100000 253 zck (by kernel_rfl) (by kernel_rfl)
def zV4:ME:=⟨4,[(none,1),(none,2),(none,5),(none,9)],[.agg [cI 1,.sl 0 0 1 6 none,.sl 1 0 1 1 none,cI 1,.v (.slice none 0 0)],.sl 2 0 1 7 none,.agg [cF,.lim 1,cJ 2],.sl 3 0 1 7 none,cI 50],[(3,.cells [cF,.lim 63,cJ 8,cF,.lim 65,cJ 8,cF]),(2,.cells [cF,.lim 1,cJ 2,cF,.lim 1,cJ 2,cF]),(1,.cells [cI 1]),(0,.cells [cI 1,cI 0,cI 0,cI 0,cI 1,cI 1])],cF,[],290⟩
theorem zf9:zAK Tryz.prog glo 253 zV4:=
 (zAM [] (zAI _ _)).entry 100000 253 zV4 (by kernel_rfl) (by kernel_rfl)
def zcl:ME:=⟨4,[(none,1),(none,2),(none,5),(none,9)],[.agg [cI 1,.sl 0 0 1 6 none,.sl 1 0 1 1 none,cI 1,.v (.slice none 0 0)],.sl 2 0 1 7 none,.agg [cF,.lim 1,cJ 2],.sl 3 0 1 7 none,cI 50],[(3,.cells [cF,.lim 31,cJ 7,cF,.lim 33,cJ 7,cF]),(2,.cells [cF,.lim 1,cJ 2,cF,.lim 1,cJ 2,cF]),(1,.cells [cI 1]),(0,.cells [cI 1,cI 0,cI 0,cI 0,cI 1,cI 1])],cF,[],290⟩
theorem ziw:zAK Tryz.prog glo 253 zcl:=
 (zAM [] (zAI _ _)).entry 100000 253 zcl (by kernel_rfl) (by kernel_rfl)
def zV5:ME:=⟨4,[(none,1),(none,2),(none,5),(none,9)],[.agg [cI 1,.sl 0 0 1 6 none,.sl 1 0 1 1 none,cI 1,.v (.slice none 0 0)],.sl 2 0 1 7 none,.agg [cF,.lim 1,cJ 2],.sl 3 0 1 7 none,cI 50],[(3,.cells [cF,.lim 15,cJ 6,cF,.lim 17,cJ 6,cF]),(2,.cells [cF,.lim 1,cJ 2,cF,.lim 1,cJ 2,cF]),(1,.cells [cI 1]),(0,.cells [cI 1,cI 0,cI 0,cI 0,cI 1,cI 1])],cF,[],290⟩
theorem zgA:zAK Tryz.prog glo 253 zV5:=
 (zAM [] (zAI _ _)).entry 100000 253 zV5 (by kernel_rfl) (by kernel_rfl)
def zV6:ME:=⟨4,[(none,1),(none,2),(none,5),(none,9)],[.agg [cI 1,.sl 0 0 1 6 none,.sl 1 0 1 1 none,cI 1,.v (.slice none 0 0)],.sl 2 0 1 7 none,.agg [cF,.lim 1,cJ 2],.sl 3 0 1 7 none,cI 50],[(3,.cells [cF,.lim 7,cJ 5,cF,.lim 9,cJ 5,cF]),(2,.cells [cF,.lim 1,cJ 2,cF,.lim 1,cJ 2,cF]),(1,.cells [cI 1]),(0,.cells [cI 1,cI 0,cI 0,cI 0,cI 1,cI 1])],cF,[],290⟩
theorem zgB:zAK Tryz.prog glo 253 zV6:=
 (zAM [] (zAI _ _)).entry 100000 253 zV6 (by kernel_rfl) (by kernel_rfl)
def zV7:ME:=⟨4,[(none,1),(none,2),(none,5),(none,9)],[.agg [cI 1,.sl 0 0 1 6 none,.sl 1 0 1 1 none,cI 1,.v (.slice none 0 0)],.sl 2 0 1 7 none,.agg [cF,.lim 1,cJ 2],.sl 3 0 1 7 none,cI 50],[(3,.cells [cF,.lim 3,cJ 4,cF,.lim 5,cJ 4,cF]),(2,.cells [cF,.lim 1,cJ 2,cF,.lim 1,cJ 2,cF]),(1,.cells [cI 1]),(0,.cells [cI 1,cI 0,cI 0,cI 0,cI 1,cI 1])],cF,[],290⟩
theorem zgC:zAK Tryz.prog glo 253 zV7:=
 (zAM [] (zAI _ _)).entry 100000 253 zV7 (by kernel_rfl) (by kernel_rfl)
def zcm:ME:=⟨4,[(none,1),(none,2),(none,5),(none,9)],[.agg [cI 1,.sl 0 0 1 6 none,.sl 1 0 1 1 none,cI 1,.v (.slice none 0 0)],.sl 2 0 1 7 none,.agg [cF,.lim 1,cJ 2],.sl 3 0 1 7 none,cI 50],[(3,.cells [cF,.lim 1,cJ 3,cF,.lim 3,cJ 3,cF]),(2,.cells [cF,.lim 1,cJ 2,cF,.lim 1,cJ 2,cF]),(1,.cells [cI 1]),(0,.cells [cI 1,cI 0,cI 0,cI 0,cI 1,cI 1])],cF,[],290⟩
theorem zix:zAK Tryz.prog glo 253 zcm:=
 (zAM [] (zAI _ _)).entry 100000 253 zcm (by kernel_rfl) (by kernel_rfl)
def zcn:ME:=⟨4,[(none,1),(none,2),(none,5),(none,9)],[.agg [cI 1,.sl 0 0 1 6 none,.sl 1 0 1 1 none,cI 1,.v (.slice none 0 0)],.sl 2 0 1 7 none,.agg [cF,.lim 1,cJ 2],.sl 3 0 1 7 none,cI 50],[(3,.cells [cF,.lim 0,cI 0,cF,.lim 1,cJ 1,cF]),(2,.cells [cF,.lim 1,cJ 2,cF,.lim 1,cJ 2,cF]),(1,.cells [cI 1]),(0,.cells [cI 1,cI 0,cI 0,cI 0,cI 1,cI 1])],cT,[],290⟩
theorem ziy:zAK Tryz.prog glo 253 zcn:=
 (zAM [] (zAI _ _)).entry 100000 253 zcn (by kernel_rfl) (by kernel_rfl)
def zcq:ME:=⟨3,[(none,1),(none,2),(none,5)],[.agg [cI 1,.sl 0 0 1 6 none,.sl 1 0 1 1 none,cI 1,.v (.slice none 0 0)],.sl 2 0 1 7 none,cI 4,cI 50],[(2,.cells [cF,.lim 1,cJ 1,cF,.lim 1,cJ 1,cF]),(1,.cells [cI 1]),(0,.cells [cI 1,cI 0,cI 0,cI 0,cI 1,cI 1])],.tup [.sl 16 0 1 1 none,cI 0],[(720,.cells [cF,.lim 1,cJ 1,cF,.lim 1,cJ 1,cF,cF,.lim 1,cI 0,cF,.lim 1,cI 0,cF,cF,.v (.slice none 0 0),cI 0,cF,.v (.slice none 0 0),cI 0,cF,cF,.v (.slice none 0 0),cI 0,cF,.v (.slice none 0 0),cI 0,cF,cF,.v (.slice none 0 0),cI 0,cF,.v (.slice none 0 0),cI 0,cF]),(16,.cells [.sl 720 0 5 7 none])],721⟩
theorem zi1:zAK Tryz.prog glo 247 zcq:=
 (zAM [] (zAI _ _)).entry 100000 247 zcq (by kernel_rfl) (by kernel_rfl)
def zcr:ME:=⟨4,[(none,1),(none,2),(none,5),(none,9)],[.agg [cI 1,.sl 0 0 1 6 none,.sl 1 0 1 1 none,cI 1,.v (.slice none 0 0)],.sl 2 0 1 7 none,.agg [cF,.lim 1,cJ 2],.sl 3 0 1 7 none,cI 50],[(3,.cells [cF,.lim 255,cJ 9,cF,.lim 257,cJ 9,cF]),(2,.cells [cF,.lim 1,cJ 1,cF,.lim 1,cJ 1,cF]),(1,.cells [cI 1]),(0,.cells [cI 1,cI 0,cI 0,cI 0,cI 1,cI 1])],cF,[],290⟩
theorem zi2:zAK Tryz.prog glo 253 zcr:=
 (zAM [] (zAI _ _)).entry 100000 253 zcr (by kernel_rfl) (by kernel_rfl)
def zcs:ME:=⟨4,[(none,1),(none,2),(none,5),(none,9)],[.agg [cI 1,.sl 0 0 1 6 none,.sl 1 0 1 1 none,cI 1,.v (.slice none 0 0)],.sl 2 0 1 7 none,.agg [cF,.lim 1,cJ 2],.sl 3 0 1 7 none,cI 50],[(3,.cells [cF,.lim 127,cJ 8,cF,.lim 129,cJ 8,cF]),(2,.cells [cF,.lim 1,cJ 1,cF,.lim 1,cJ 1,cF]),(1,.cells [cI 1]),(0,.cells [cI 1,cI 0,cI 0,cI 0,cI 1,cI 1])],cF,[],290⟩
theorem zi3:zAK Tryz.prog glo 253 zcs:=
 (zAM [] (zAI _ _)).entry 100000 253 zcs (by kernel_rfl) (by kernel_rfl)
def zct:ME:=⟨4,[(none,1),(none,2),(none,5),(none,9)],[.agg [cI 1,.sl 0 0 1 6 none,.sl 1 0 1 1 none,cI 1,.v (.slice none 0 0)],.sl 2 0 1 7 none,.agg [cF,.lim 1,cJ 2],.sl 3 0 1 7 none,cI 50],[(3,.cells [cF,.lim 63,cJ 7,cF,.lim 65,cJ 7,cF]),(2,.cells [cF,.lim 1,cJ 1,cF,.lim 1,cJ 1,cF]),(1,.cells [cI 1]),(0,.cells [cI 1,cI 0,cI 0,cI 0,cI 1,cI 1])],cF,[],290⟩
theorem zi4:zAK Tryz.prog glo 253 zct:=
 (zAM [] (zAI _ _)).entry 100000 253 zct (by kernel_rfl) (by kernel_rfl)
def zcu:ME:=⟨4,[(none,1),(none,2),(none,5),(none,9)],[.agg [cI 1,.sl 0 0 1 6 none,.sl 1 0 1 1 none,cI 1,.v (.slice none 0 0)],.sl 2 0 1 7 none,.agg [cF,.lim 1,cJ 2],.sl 3 0 1 7 none,cI 50],[(3,.cells [cF,.lim 31,cJ 6,cF,.lim 33,cJ 6,cF]),(2,.cells [cF,.lim 1,cJ 1,cF,.lim 1,cJ 1,cF]),(1,.cells [cI 1]),(0,.cells [cI 1,cI 0,cI 0,cI 0,cI 1,cI 1])],cF,[],290⟩
theorem zi5:zAK Tryz.prog glo 253 zcu:=
 (zAM [] (zAI _ _)).entry 100000 253 zcu (by kernel_rfl) (by kernel_rfl)
def zV9:ME:=⟨4,[(none,1),(none,2),(none,5),(none,9)],[.agg [cI 1,.sl 0 0 1 6 none,.sl 1 0 1 1 none,cI 1,.v (.slice none 0 0)],.sl 2 0 1 7 none,.agg [cF,.lim 1,cJ 2],.sl 3 0 1 7 none,cI 50],[(3,.cells [cF,.lim 15,cJ 5,cF,.lim 17,cJ 5,cF]),(2,.cells [cF,.lim 1,cJ 1,cF,.lim 1,cJ 1,cF]),(1,.cells [cI 1]),(0,.cells [cI 1,cI 0,cI 0,cI 0,cI 1,cI 1])],cF,[],290⟩
theorem zgE:zAK Tryz.prog glo 253 zV9:=
 (zAM [] (zAI _ _)).entry 100000 253 zV9 (by kernel_rfl) (by kernel_rfl)
def zcv:ME:=⟨4,[(none,1),(none,2),(none,5),(none,9)],[.agg [cI 1,.sl 0 0 1 6 none,.sl 1 0 1 1 none,cI 1,.v (.slice none 0 0)],.sl 2 0 1 7 none,.agg [cF,.lim 1,cJ 2],.sl 3 0 1 7 none,cI 50],[(3,.cells [cF,.lim 7,cJ 4,cF,.lim 9,cJ 4,cF]),(2,.cells [cF,.lim 1,cJ 1,cF,.lim 1,cJ 1,cF]),(1,.cells [cI 1]),(0,.cells [cI 1,cI 0,cI 0,cI 0,cI 1,cI 1])],cF,[],290⟩
theorem zi6:zAK Tryz.prog glo 253 zcv:=
 (zAM [] (zAI _ _)).entry 100000 253 zcv (by kernel_rfl) (by kernel_rfl)
def zWA:ME:=⟨4,[(none,1),(none,2),(none,5),(none,9)],[.agg [cI 1,.sl 0 0 1 6 none,.sl 1 0 1 1 none,cI 1,.v (.slice none 0 0)],.sl 2 0 1 7 none,.agg [cF,.lim 1,cJ 2],.sl 3 0 1 7 none,cI 50],[(3,.cells [cF,.lim 3,cJ 3,cF,.lim 5,cJ 3,cF]),(2,.cells [cF,.lim 1,cJ 1,cF,.lim 1,cJ 1,cF]),(1,.cells [cI 1]),(0,.cells [cI 1,cI 0,cI 0,cI 0,cI 1,cI 1])],cF,[],290⟩
theorem zgF:zAK Tryz.prog glo 253 zWA:=
 (zAM [] (zAI _ _)).entry 100000 253 zWA (by kernel_rfl) (by kernel_rfl)
def zcw:ME:=⟨4,[(none,1),(none,2),(none,5),(none,9)],[.agg [cI 1,.sl 0 0 1 6 none,.sl 1 0 1 1 none,cI 1,.v (.slice none 0 0)],.sl 2 0 1 7 none,.agg [cF,.lim 1,cJ 2],.sl 3 0 1 7 none,cI 50],[(3,.cells [cF,.lim 1,cJ 2,cF,.lim 3,cJ 2,cF]),(2,.cells [cF,.lim 1,cJ 1,cF,.lim 1,cJ 1,cF]),(1,.cells [cI 1]),(0,.cells [cI 1,cI 0,cI 0,cI 0,cI 1,cI 1])],cT,[],290⟩
theorem zi7:zAK Tryz.prog glo 253 zcw:=
 (zAM [] (zAI _ _)).entry 100000 253 zcw (by kernel_rfl) (by kernel_rfl)
def zWC:ME:=⟨3,[(none,1),(none,2),(none,5)],[.agg [cI 1,.sl 0 0 1 6 none,.sl 1 0 1 1 none,cI 1,.v (.slice none 0 0)],.sl 2 0 1 7 none,cI 4,cI 50],[(2,.cells [cF,.lim 3,cJ 2,cF,.lim 3,cJ 2,cF]),(1,.cells [cI 1]),(0,.cells [cI 1,cI 0,cI 0,cI 0,cI 1,cI 1])],.tup [.sl 16 0 1 1 none,cI 0],[(720,.cells [cF,.lim 3,cJ 2,cF,.lim 3,cJ 2,cF,cF,.lim 1,cI 0,cF,.lim 1,cI 0,cF,cF,.v (.slice none 0 0),cI 0,cF,.v (.slice none 0 0),cI 0,cF,cF,.v (.slice none 0 0),cI 0,cF,.v (.slice none 0 0),cI 0,cF,cF,.v (.slice none 0 0),cI 0,cF,.v (.slice none 0 0),cI 0,cF]),(16,.cells [.sl 720 0 5 7 none])],721⟩
theorem zgH:zAK Tryz.prog glo 247 zWC:=
 (zAM [] (zAI _ _)).entry 100000 247 zWC (by kernel_rfl) (by kernel_rfl)
def zcz:ME:=⟨4,[(none,1),(none,2),(none,5),(none,9)],[.agg [cI 1,.sl 0 0 1 6 none,.sl 1 0 1 1 none,cI 1,.v (.slice none 0 0)],.sl 2 0 1 7 none,.agg [cF,.lim 1,cJ 2],.sl 3 0 1 7 none,cI 50],[(3,.cells [cF,.lim 383,cJ 9,cF,.lim 385,cJ 9,cF]),(2,.cells [cF,.lim 3,cJ 2,cF,.lim 3,cJ 2,cF]),(1,.cells [cI 1]),(0,.cells [cI 1,cI 0,cI 0,cI 0,cI 1,cI 1])],cF,[],290⟩
theorem zjA:zAK Tryz.prog glo 253 zcz:=
 (zAM [] (zAI _ _)).entry 100000 253 zcz (by kernel_rfl) (by kernel_rfl)
def zWD:ME:=⟨4,[(none,1),(none,2),(none,5),(none,9)],[.agg [cI 1,.sl 0 0 1 6 none,.sl 1 0 1 1 none,cI 1,.v (.slice none 0 0)],.sl 2 0 1 7 none,.agg [cF,.lim 1,cJ 2],.sl 3 0 1 7 none,cI 50],[(3,.cells [cF,.lim 191,cJ 8,cF,.lim 193,cJ 8,cF]),(2,.cells [cF,.lim 3,cJ 2,cF,.lim 3,cJ 2,cF]),(1,.cells [cI 1]),(0,.cells [cI 1,cI 0,cI 0,cI 0,cI 1,cI 1])],cF,[],290⟩
theorem zgI:zAK Tryz.prog glo 253 zWD:=
 (zAM [] (zAI _ _)).entry 100000 253 zWD (by kernel_rfl) (by kernel_rfl)
def zc0:ME:=⟨4,[(none,1),(none,2),(none,5),(none,9)],[.agg [cI 1,.sl 0 0 1 6 none,.sl 1 0 1 1 none,cI 1,.v (.slice none 0 0)],.sl 2 0 1 7 none,.agg [cF,.lim 1,cJ 2],.sl 3 0 1 7 none,cI 50],[(3,.cells [cF,.lim 95,cJ 7,cF,.lim 97,cJ 7,cF]),(2,.cells [cF,.lim 3,cJ 2,cF,.lim 3,cJ 2,cF]),(1,.cells [cI 1]),(0,.cells [cI 1,cI 0,cI 0,cI 0,cI 1,cI 1])],cF,[],290⟩
theorem zjB:zAK Tryz.prog glo 253 zc0:=
 (zAM [] (zAI _ _)).entry 100000 253 zc0 (by kernel_rfl) (by kernel_rfl)
def zc1:ME:=⟨4,[(none,1),(none,2),(none,5),(none,9)],[.agg [cI 1,.sl 0 0 1 6 none,.sl 1 0 1 1 none,cI 1,.v (.slice none 0 0)],.sl 2 0 1 7 none,.agg [cF,.lim 1,cJ 2],.sl 3 0 1 7 none,cI 50],[(3,.cells [cF,.lim 47,cJ 6,cF,.lim 49,cJ 6,cF]),(2,.cells [cF,.lim 3,cJ 2,cF,.lim 3,cJ 2,cF]),(1,.cells [cI 1]),(0,.cells [cI 1,cI 0,cI 0,cI 0,cI 1,cI 1])],cF,[],290⟩
theorem zjC:zAK Tryz.prog glo 253 zc1:=
 (zAM [] (zAI _ _)).entry 100000 253 zc1 (by kernel_rfl) (by kernel_rfl)
def zWE:ME:=⟨4,[(none,1),(none,2),(none,5),(none,9)],[.agg [cI 1,.sl 0 0 1 6 none,.sl 1 0 1 1 none,cI 1,.v (.slice none 0 0)],.sl 2 0 1 7 none,.agg [cF,.lim 1,cJ 2],.sl 3 0 1 7 none,cI 50],[(3,.cells [cF,.lim 23,cJ 5,cF,.lim 25,cJ 5,cF]),(2,.cells [cF,.lim 3,cJ 2,cF,.lim 3,cJ 2,cF]),(1,.cells [cI 1]),(0,.cells [cI 1,cI 0,cI 0,cI 0,cI 1,cI 1])],cF,[],290⟩
theorem zgJ:zAK Tryz.prog glo 253 zWE:=
 (zAM [] (zAI _ _)).entry 100000 253 zWE (by kernel_rfl) (by kernel_rfl)
def zWF:ME:=⟨4,[(none,1),(none,2),(none,5),(none,9)],[.agg [cI 1,.sl 0 0 1 6 none,.sl 1 0 1 1 none,cI 1,.v (.slice none 0 0)],.sl 2 0 1 7 none,.agg [cF,.lim 1,cJ 2],.sl 3 0 1 7 none,cI 50],[(3,.cells [cF,.lim 11,cJ 4,cF,.lim 13,cJ 4,cF]),(2,.cells [cF,.lim 3,cJ 2,cF,.lim 3,cJ 2,cF]),(1,.cells [cI 1]),(0,.cells [cI 1,cI 0,cI 0,cI 0,cI 1,cI 1])],cF,[],290⟩
theorem zgK:zAK Tryz.prog glo 253 zWF:=
 (zAM [] (zAI _ _)).entry 100000 253 zWF (by kernel_rfl) (by kernel_rfl)
def zc2:ME:=⟨4,[(none,1),(none,2),(none,5),(none,9)],[.agg [cI 1,.sl 0 0 1 6 none,.sl 1 0 1 1 none,cI 1,.v (.slice none 0 0)],.sl 2 0 1 7 none,.agg [cF,.lim 1,cJ 2],.sl 3 0 1 7 none,cI 50],[(3,.cells [cF,.lim 5,cJ 3,cF,.lim 7,cJ 3,cF]),(2,.cells [cF,.lim 3,cJ 2,cF,.lim 3,cJ 2,cF]),(1,.cells [cI 1]),(0,.cells [cI 1,cI 0,cI 0,cI 0,cI 1,cI 1])],cF,[],290⟩
theorem zjD:zAK Tryz.prog glo 253 zc2:=
 (zAM [] (zAI _ _)).entry 100000 253 zc2 (by kernel_rfl) (by kernel_rfl)
def zc3:ME:=⟨4,[(none,1),(none,2),(none,5),(none,9)],[.agg [cI 1,.sl 0 0 1 6 none,.sl 1 0 1 1 none,cI 1,.v (.slice none 0 0)],.sl 2 0 1 7 none,.agg [cF,.lim 1,cJ 2],.sl 3 0 1 7 none,cI 50],[(3,.cells [cF,.lim 1,cJ 1,cF,.lim 1,cJ 0,cF]),(2,.cells [cF,.lim 3,cJ 2,cF,.lim 3,cJ 2,cF]),(1,.cells [cI 1]),(0,.cells [cI 1,cI 0,cI 0,cI 0,cI 1,cI 1])],cT,[],290⟩
theorem zjE:zAK Tryz.prog glo 253 zc3:=
 (zAM [] (zAI _ _)).entry 100000 253 zc3 (by kernel_rfl) (by kernel_rfl)
def zc6:ME:=⟨3,[(none,1),(none,2),(none,5)],[.agg [cI 1,.sl 0 0 1 6 none,.sl 1 0 1 1 none,cI 1,.v (.slice none 0 0)],.sl 2 0 1 7 none,cI 4,cI 50],[(2,.cells [cF,.lim 1,cJ 0,cF,.lim 1,cJ 0,cF]),(1,.cells [cI 1]),(0,.cells [cI 1,cI 0,cI 0,cI 0,cI 1,cI 1])],.tup [.sl 16 0 1 1 none,cI 0],[(720,.cells [cF,.lim 1,cJ 0,cF,.lim 1,cJ 0,cF,cF,.lim 1,cI 0,cF,.lim 1,cI 0,cF,cF,.v (.slice none 0 0),cI 0,cF,.v (.slice none 0 0),cI 0,cF,cF,.v (.slice none 0 0),cI 0,cF,.v (.slice none 0 0),cI 0,cF,cF,.v (.slice none 0 0),cI 0,cF,.v (.slice none 0 0),cI 0,cF]),(16,.cells [.sl 720 0 5 7 none])],721⟩
theorem zjH:zAK Tryz.prog glo 247 zc6:=
 (zAM [] (zAI _ _)).entry 100000 247 zc6 (by kernel_rfl) (by kernel_rfl)
def zc7:ME:=⟨4,[(none,1),(none,2),(none,5),(none,9)],[.agg [cI 1,.sl 0 0 1 6 none,.sl 1 0 1 1 none,cI 1,.v (.slice none 0 0)],.sl 2 0 1 7 none,.agg [cF,.lim 1,cJ 2],.sl 3 0 1 7 none,cI 50],[(3,.cells [cF,.lim 511,cJ 9,cF,.lim 513,cJ 9,cF]),(2,.cells [cF,.lim 1,cJ 0,cF,.lim 1,cJ 0,cF]),(1,.cells [cI 1]),(0,.cells [cI 1,cI 0,cI 0,cI 0,cI 1,cI 1])],cF,[],290⟩
theorem zjI:zAK Tryz.prog glo 253 zc7:=
 (zAM [] (zAI _ _)).entry 100000 253 zc7 (by kernel_rfl) (by kernel_rfl)
end Go.Proofs.YtngjhigieajkmaaGreatDoor
end
