/- Bundle 10: what the law's walk stands on: C6, S5, C8, C11, C12, C13, C14, C16. -/
import Derived.StillTailTactics
import Derived.Test.YtchkfjgcbbbffaaGreatDoorX1
import Derived.Test.YtchkfjgcbbbffaaGreatDoorX2
import Derived.Test.YtchkfjgcbbbffaaGreatDoorX3
import Derived.Test.YtchkfjgcbbbffaaGreatDoorX4
import Derived.Test.YtchkfjgcbbbffaaGreatDoorX9
set_option maxRecDepth 100000
set_option maxHeartbeats 20000000
set_option linter.all false
noncomputable section
namespace Go.Proofs.YtchkfjgcbbbffaaGreatDoor
open Go.RowKit Pl Go.Shelf
def lkV (N:Nat) (x:Lk):Bool:=vld x.h && decide (0<zBP x.h) && zEO x.tube && decide (x.tube.length=N) && frV x.e && decide (x.e.c.length=N) && sqV x.v N
def ctV (x:Ct):Bool:=decide (8<=x.prec) && decide (x.prec<=256) && decide (1<=x.order) && decide (x.order<=15) && decide (x.links.length<=1000) &&
 decide (1<=x.start.c.length) && decide (x.start.c.length<=4) && frV x.start && idM x.start.a && !x.links.any (fun l=>!lkV x.start.c.length l)
theorem zRo (vs:List Value) (d:Dy) (w:World) (h:RD w vs d) (hd:Bd d):Calls Tryz.prog 48 #[.agg vs.toArray] w fun e w'=>e=.returned (.int .i64 (zBP d))/\Below w.heap.size w w':=by
 obtain ⟨A,n,c,rfl,hs⟩:=h;have:=hs.len;unfold Bd at hd;exact zFH d.neg A n c d.l d.e w hs (by omega)
theorem zHY (N gN:Nat) (vs:List Value) (x:Lk) (w:World) (h:RL w vs x) (hx:BdL x) (kN:Blk w gN 3 #[.int .i64 N]):Calls Tryz.prog 46 (#[.agg vs.toArray]++#[.pointer (some ⟨gN,0,none⟩)]) w (zBW (!lkV N x) w):=by
 obtain ⟨H,hn,hc,T,tn,tc,A,n,c,B,m,d,C,p,q,V,vn,vc,rfl,h1,h2,h3,h4,h5,h6⟩:=h;obtain ⟨⟨dn,dl,de⟩,tube,fe,v⟩:=x;dsimp only at h1 h2 h3 h4 h5 h6 ⊢;have e:(#[.agg ([.bool dn,.slice H hn hc,.int .i64 de,.slice T tn tc,.slice A n c,.slice B m d,.slice C p q,.slice V vn vc]:List Value).toArray]++#[.pointer (some ⟨gN,0,none⟩)]:Array Value)=#[.agg #[.bool dn,.slice H hn hc,.int .i64 de,.slice T tn tc,.slice A n c,.slice B m d,.slice C p q,.slice V vn vc],.pointer (some ⟨gN,0,none⟩)]:=by simp
 rw [e];clear e;have HV:Hid (lkV N ⟨⟨dn,dl,de⟩,tube,fe,v⟩=(vld ⟨dn,dl,de⟩ && decide (0<zBP ⟨dn,dl,de⟩) && zEO tube && decide (tn=N) && frV fe && decide (n=N) && sqV v N)):=by unfold Hid lkV;rw [h2.len,h3.len]
 have r1:RD w [.bool dn,.slice H hn hc,.int .i64 de] ⟨dn,dl,de⟩:=⟨H,hn,hc,rfl,h1⟩;have r2:RF w [.slice A n c,.slice B m d,.slice C p q] fe:=⟨A,n,c,B,m,d,C,p,q,rfl,h3,h4,h5⟩;have H1:=Zh (fun W (hb:Below w.heap.size w W)=>zEl _ _ W (zAQ w W _ _ r1 hb) hx.h);have H2:=Zh (fun W (hb:Below w.heap.size w W)=>zRo _ _ W (zAQ w W _ _ r1 hb) hx.h);have H3:=Zh (fun W (hb:Below w.heap.size w W)=>zDh T tn tc tube W (h2.next zAX hb) hx.t);have H4:=Zh (fun W (hb:Below w.heap.size w W)=>zEQ _ fe W (zBs w W _ _ r2 hb) hx.e);have H5:=Zh (fun W (hb:Below w.heap.size w W)=>zNE N V vn vc v W (h6.next zAh hb) hx.v);have m1:=h2.cap;have m2:=h2.max;have m3:=h3.cap;have m4:=h3.max;have hb0:=zAE w (.cells #[.bool dn,.slice H hn hc,.int .i64 de,.slice T tn tc,.slice A n c,.slice B m d,.slice C p q,.slice V vn vc] 86);have k0:=Blk.new w 86 #[.bool dn,.slice H hn hc,.int .i64 de,.slice T tn tc,.slice A n c,.slice B m d,.slice C p q,.slice V vn vc];replace kN:=kN.next hb0;clear h1 h2 h3 h4 h5 h6 r1 r2 hx;go_enter Tryz.func46,Tryz.ntmps46
 go_wp2_with fail
 generalize w.alloc (.cells #[.bool dn,.slice H hn hc,.int .i64 de,.slice T tn tc,.slice A n c,.slice B m d,.slice C p q,.slice V vn vc] 86)=W0 at *;refine (H1.out _ hb0).mono ?_;rintro e w1 ⟨rfl,hb1x⟩
 replace hb0:=zAA hb0 hb1x;replace k0:=k0.next hb1x;replace kN:=kN.next hb1x;clear hb1x;cases hv1:vld ⟨dn,dl,de⟩
 ·rw [hv1] at HV
  clear hv1;go_wp2_with fail
  go_ret;exact ⟨by rw [HV.out];rfl,hb0⟩
 rw [hv1] at HV;clear hv1;obtain ⟨k0q0,k0q1,k0q2,k0q3,k0q4,k0q5,k0q6,k0q7⟩:=k0.cells8;have kNq0:=kN.cells1;go_wp2_with fail
 refine (H2.out _ hb0).mono ?_;rintro e w2 ⟨rfl,hb2x⟩
 clear k0q0 k0q1 k0q2 k0q3 k0q4 k0q5 k0q6 k0q7 kNq0;replace hb0:=zAA hb0 hb2x;replace k0:=k0.next hb2x;replace kN:=kN.next hb2x;clear hb2x;generalize zBP ⟨dn,dl,de⟩=r at *;by_cases hr:0<r
 rotate_left
 ·rw [Ye hr] at HV
  have hr2:decide (r<=0)=true:=Yf (by omega);obtain ⟨k0q0,k0q1,k0q2,k0q3,k0q4,k0q5,k0q6,k0q7⟩:=k0.cells8;have kNq0:=kN.cells1;go_wp2_with fail
  go_ret;exact ⟨by rw [HV.out];rfl,hb0⟩
 rw [Yf hr] at HV;have hr2:decide (r<=0)=false:=Ye (by omega);obtain ⟨k0q0,k0q1,k0q2,k0q3,k0q4,k0q5,k0q6,k0q7⟩:=k0.cells8;have kNq0:=kN.cells1;go_wp2_with fail
 refine (H3.out _ hb0).mono ?_;rintro e w3 ⟨rfl,hb3x⟩
 clear k0q0 k0q1 k0q2 k0q3 k0q4 k0q5 k0q6 k0q7 kNq0;replace hb0:=zAA hb0 hb3x;replace k0:=k0.next hb3x;replace kN:=kN.next hb3x;clear hb3x;cases hv1:zEO tube
 ·rw [hv1] at HV
  clear hv1;go_wp2_with fail
  go_ret;exact ⟨by rw [HV.out];rfl,hb0⟩
 rw [hv1] at HV;clear hv1;by_cases ht:tn=N
 rotate_left
 ·rw [Ye ht] at HV
  have ht2:((tn:Int) != (N:Int))=true:=by rw [bne_iff_ne];omega
  obtain ⟨k0q0,k0q1,k0q2,k0q3,k0q4,k0q5,k0q6,k0q7⟩:=k0.cells8;have kNq0:=kN.cells1;go_wp2_with fail
  go_ret;exact ⟨by rw [HV.out];rfl,hb0⟩
 rw [Yf ht] at HV;have ht2:((tn:Int) != (N:Int))=false:=by rw [ht];simp
 have HT2:=Zh ht;clear ht;obtain ⟨k0q0,k0q1,k0q2,k0q3,k0q4,k0q5,k0q6,k0q7⟩:=k0.cells8;have kNq0:=kN.cells1;go_wp2_with fail
 refine (H4.out _ hb0).mono ?_;rintro e w4 ⟨rfl,hb4x⟩
 clear k0q0 k0q1 k0q2 k0q3 k0q4 k0q5 k0q6 k0q7 kNq0;replace hb0:=zAA hb0 hb4x;replace k0:=k0.next hb4x;replace kN:=kN.next hb4x;clear hb4x;cases hv1:frV fe
 ·rw [hv1] at HV
  clear hv1;go_wp2_with fail
  go_ret;exact ⟨by rw [HV.out];rfl,hb0⟩
 rw [hv1] at HV;clear hv1;by_cases hq:n=N
 rotate_left
 ·rw [Ye hq] at HV
  have hq2:((n:Int) != (N:Int))=true:=by rw [bne_iff_ne];omega
  obtain ⟨k0q0,k0q1,k0q2,k0q3,k0q4,k0q5,k0q6,k0q7⟩:=k0.cells8;have kNq0:=kN.cells1;go_wp2_with fail
  go_ret;exact ⟨by rw [HV.out];rfl,hb0⟩
 rw [Yf hq] at HV;have hq2:((n:Int) != (N:Int))=false:=by rw [hq];simp
 have HQ2:=Zh hq;clear hq;obtain ⟨k0q0,k0q1,k0q2,k0q3,k0q4,k0q5,k0q6,k0q7⟩:=k0.cells8;have kNq0:=kN.cells1;go_wp2_with fail
 refine (H5.out _ hb0).mono ?_;rintro e w5 ⟨rfl,hb5x⟩
 clear k0q0 k0q1 k0q2 k0q3 k0q4 k0q5 k0q6 k0q7 kNq0;replace hb0:=zAA hb0 hb5x;replace k0:=k0.next hb5x;replace kN:=kN.next hb5x;clear hb5x;generalize sqV v N=s at *;go_wp2_with fail
 go_ret;exact ⟨by rw [HV.out];rfl,hb0⟩
theorem zBe (vs:List Value) (x:Ct) (w:World) (h:RC w vs x) (hx:BdC x) (ht:zBx w):Calls Tryz.prog 12 #[.agg vs.toArray] w (zBW (ctV x) w):=by
 have hmf:∀ (fn:Fn) (first cap:Array Value) (w:World),(Instr.makeFunc fn first cap).run Tryz.prog w=.ok (.func fn first cap) w:=fun _ _ _ _=>rfl
 obtain ⟨A,n,c,B,m,d,C,p,q,L,ln,lc,rfl,h1,h2,h3,h4⟩:=h;obtain ⟨pr,od,st,ls⟩:=x;dsimp only at h1 h2 h3 h4 ⊢;have HV:Hid (ctV ⟨pr,od,st,ls⟩=(decide (8<=pr) && decide (pr<=256) && decide (1<=od) && decide (od<=15) && decide (ln<=1000) && decide (1<=n) && decide (n<=4) && frV st && idM st.a && !ls.any (fun l=>!lkV n l))):=by unfold Hid ctV;dsimp only;rw [h1.len,h4.len]
 have r2:RF w [.slice A n c,.slice B m d,.slice C p q] st:=⟨A,n,c,B,m,d,C,p,q,rfl,h1,h2,h3⟩;have H1:=Zh (fun W (hb:Below w.heap.size w W)=>zEQ _ st W (zBs w W _ _ r2 hb) hx.s);have H2:=Zh (fun W (hb:Below w.heap.size w W)=>zJp B m d st.a W (h2.next zAh hb) hx.s.a (ht.next hb));have H3:=Zh (fun W (hb:Below w.heap.size w W) (gN:Nat) (kN:Blk W gN 3 #[.int .i64 n])=>zEP (fun l=>!lkV n l) 46 #[.pointer (some ⟨gN,0,none⟩)] L ln lc ls W (h4.next zBt hb) (zCQ Tryz.func46 (by kernel_rfl) rfl) (fun V us l hb' hm hr=>zHY n gN us l V hr (hx.l l hm) (kN.next hb')));have m1:=h1.cap;have m2:=h1.max;have m3:=h4.cap;have m4:=h4.max;have hb0:=zAA (zAE w (.cells #[.int .i64 pr,.int .i64 od,.slice A n c,.slice B m d,.slice C p q,.slice L ln lc] 29)) (zAE (w.alloc (.cells #[.int .i64 pr,.int .i64 od,.slice A n c,.slice B m d,.slice C p q,.slice L ln lc] 29)) (.cells #[.int .i64 n] 3));have k0:=(Blk.new w 29 #[.int .i64 pr,.int .i64 od,.slice A n c,.slice B m d,.slice C p q,.slice L ln lc]).next (zAE (w.alloc (.cells #[.int .i64 pr,.int .i64 od,.slice A n c,.slice B m d,.slice C p q,.slice L ln lc] 29)) (.cells #[.int .i64 n] 3));have kN:Blk ((w.alloc (.cells #[.int .i64 pr,.int .i64 od,.slice A n c,.slice B m d,.slice C p q,.slice L ln lc] 29)).alloc (.cells #[.int .i64 n] 3)) (w.heap.size+1) 3 #[.int .i64 n]:=Blk.newAt _ _ _ (by simp);clear h1 h2 h3 h4 r2 hx ht;generalize ls.any (fun l=>!lkV n l)=rl at *;generalize idM st.a=ri at *;generalize frV st=rf at *;by_cases e1:8<=pr
 rotate_left
 ·rw [Ye e1] at HV
  clear k0 kN H1 H2 H3;go_enter Tryz.func12,Tryz.ntmps12
  go_wp2_with fail
  go_ret;exact ⟨by rw [HV.out];rfl,hb0⟩
 rw [Yf e1] at HV;by_cases e2:pr<=256
 rotate_left
 ·rw [Ye e2] at HV
  clear k0 kN H1 H2 H3;go_enter Tryz.func12,Tryz.ntmps12
  go_wp2_with fail
  go_ret;exact ⟨by rw [HV.out];rfl,hb0⟩
 rw [Yf e2] at HV;by_cases e3:1<=od
 rotate_left
 ·rw [Ye e3] at HV
  clear k0 kN H1 H2 H3;go_enter Tryz.func12,Tryz.ntmps12
  go_wp2_with fail
  go_ret;exact ⟨by rw [HV.out];rfl,hb0⟩
 rw [Yf e3] at HV;by_cases e4:od<=15
 rotate_left
 ·rw [Ye e4] at HV
  clear k0 kN H1 H2 H3;go_enter Tryz.func12,Tryz.ntmps12
  go_wp2_with fail
  go_ret;exact ⟨by rw [HV.out];rfl,hb0⟩
 rw [Yf e4] at HV;by_cases e5:ln<=1000
 rotate_left
 ·rw [Ye e5] at HV
  clear k0 kN H1 H2 H3;go_enter Tryz.func12,Tryz.ntmps12
  go_wp2_with fail
  go_ret;exact ⟨by rw [HV.out];rfl,hb0⟩
 rw [Yf e5] at HV;by_cases e6:1<=n
 rotate_left
 ·rw [Ye e6] at HV
  clear k0 kN H1 H2 H3;go_enter Tryz.func12,Tryz.ntmps12
  go_wp2_with fail
  go_ret;exact ⟨by rw [HV.out];rfl,hb0⟩
 rw [Yf e6] at HV;by_cases e7:n<=4
 rotate_left
 ·rw [Ye e7] at HV
  clear k0 kN H1 H2 H3;go_enter Tryz.func12,Tryz.ntmps12
  go_wp2_with fail
  go_ret;exact ⟨by rw [HV.out];rfl,hb0⟩
 rw [Yf e7] at HV;go_enter Tryz.func12,Tryz.ntmps12
 go_wp2_with fail
 generalize ((w.alloc (.cells #[.int .i64 pr,.int .i64 od,.slice A n c,.slice B m d,.slice C p q,.slice L ln lc] 29)).alloc (.cells #[.int .i64 n] 3))=W0 at *;refine (H1.out _ hb0).mono ?_;rintro e w1 ⟨rfl,hb1x⟩
 replace hb0:=zAA hb0 hb1x;replace k0:=k0.next hb1x;replace kN:=kN.next hb1x;clear hb1x;cases hv1:rf
 ·rw [hv1] at HV
  clear hv1;go_wp2_with fail
  go_ret;exact ⟨by rw [HV.out];rfl,hb0⟩
 rw [hv1] at HV;clear hv1;obtain ⟨k0q0,k0q1,k0q2,k0q3,k0q4,k0q5⟩:=k0.cells6;have kNq0:=kN.cells1;go_wp2_with fail
 refine (H2.out _ hb0).mono ?_;rintro e w2 ⟨rfl,hb2x⟩
 clear k0q0 k0q1 k0q2 k0q3 k0q4 k0q5 kNq0;replace hb0:=zAA hb0 hb2x;replace k0:=k0.next hb2x;replace kN:=kN.next hb2x;clear hb2x;cases hv1:ri
 ·rw [hv1] at HV
  clear hv1;go_wp2_with fail
  go_ret;exact ⟨by rw [HV.out];rfl,hb0⟩
 rw [hv1] at HV;clear hv1;obtain ⟨k0q0,k0q1,k0q2,k0q3,k0q4,k0q5⟩:=k0.cells6;have kNq0:=kN.cells1;go_wp2_with fail
 refine (H3.out _ hb0 _ kN).mono ?_;rintro e w3 ⟨rfl,hb3x⟩
 clear k0q0 k0q1 k0q2 k0q3 k0q4 k0q5 kNq0;replace hb0:=zAA hb0 hb3x;replace k0:=k0.next hb3x;replace kN:=kN.next hb3x;clear hb3x;go_wp2_with fail
 go_ret;exact ⟨by rw [HV.out];rfl,hb0⟩
theorem zQF:(Tryz.prog.info? 41).map (fun i=>(i.zero,i.size,i.bytes))=some (some (.agg #[.bool false,.slice none 0 0,.int .i64 0]),3,40):=by kernel_rfl
theorem zcX:(Tryz.prog.info? 22).map (fun i=>(i.zero,i.size,i.bytes))=some (some (.slice none 0 0),1,24):=by kernel_rfl
theorem zQG:(Tryz.prog.info? 43).map (fun i=>(i.zero,i.size,i.bytes))=some (some (.agg #[.bool false,.slice none 0 0,.int .i64 0,.bool false,.slice none 0 0,.int .i64 0,.bool false]),7,88):=by kernel_rfl
theorem Blk.set1 {w:World}{g:Nat}{t:TypeId}{a0 a1 a2:Value}(h:Blk w g t #[a0,a1,a2]) (x:Value):Blk (w.setCell ⟨g,1,none⟩ x) g t #[a0,x,a2]:=h.set_ 1 x
theorem zLz {B:Nat}{w:World}{P:World->Prop}{g i:Nat}{v:Value}(h:Ly B w P) (hg:g<B):Ly B (w.setCell ⟨g,i,none⟩ v) P:=
 h.up (by simp [World.setCell]) (Ya _) (fun b hb _=>Yl _ _ _ _ (by show b≠g;omega))
def zhH (d:Dy) (w:World) (e:Ending) (w':World):Prop:=∃A n c,e=.returned (.agg #[.bool d.neg,.slice A n c,.int .i64 d.e])/\Ly w.heap.size w' (fun W=>SL W A n c d.l)/\Below w.heap.size w w'
theorem zCm (vs:List Value) (d:Dy) (w:World) (h:RD w vs d) (hd:Bd d):Calls Tryz.prog 92 #[.agg vs.toArray] w (zhH d w):=by
 obtain ⟨A,n,c,rfl,hs⟩:=h;obtain ⟨neg,l,ex⟩:=d;dsimp only at hs ⊢;have hn:n<=1000:=by have:=hs.len;unfold Bd at hd;dsimp only at hd;omega
 clear hd;have hb0:=zAA (zAE w (.cells #[.bool neg,.slice A n c,.int .i64 ex] 41)) (zAE (w.alloc (.cells #[.bool neg,.slice A n c,.int .i64 ex] 41)) (.cells #[.bool false,.slice none 0 0,.int .i64 0] 41));have ka:=(Blk.new w 41 #[.bool neg,.slice A n c,.int .i64 ex]).next (zAE (w.alloc (.cells #[.bool neg,.slice A n c,.int .i64 ex] 41)) (.cells #[.bool false,.slice none 0 0,.int .i64 0] 41));have kb:Blk ((w.alloc (.cells #[.bool neg,.slice A n c,.int .i64 ex] 41)).alloc (.cells #[.bool false,.slice none 0 0,.int .i64 0] 41)) (w.heap.size+1) 41 #[.bool false,.slice none 0 0,.int .i64 0]:=Blk.newAt _ _ _ (by simp);have HS:=Zh (hs.below hb0);have hsz:((w.alloc (.cells #[.bool neg,.slice A n c,.int .i64 ex] 41)).alloc (.cells #[.bool false,.slice none 0 0,.int .i64 0] 41)).heap.size=w.heap.size+2:=by simp
 clear hs;go_enter Tryz.func92,Tryz.ntmps92
 go_wp2_with fail
 generalize ((w.alloc (.cells #[.bool neg,.slice A n c,.int .i64 ex] 41)).alloc (.cells #[.bool false,.slice none 0 0,.int .i64 0] 41))=W0 at *;refine (zDj A n c l _ HS.out (by omega)).mono ?_;rintro e w1 ⟨A3,n3,c3,rfl,hs3,hf3,hb3⟩
 replace hb0:=zAA hb0 hb3;replace ka:=ka.next hb3;replace kb:=kb.next hb3;have hL:=hs3.ly hf3;have hsz1:=hb3.size;clear hb3 hs3 hf3 HS;obtain ⟨z0,z1,z2⟩:=ka.cells3;have f0:=ka.frozen 0;have f1:=ka.frozen 1;have f2:=ka.frozen 2;have ka2:=ka.set1 (.slice A3 n3 c3);have kb2:=kb.far (p:=⟨w.heap.size,1,none⟩) (by show w.heap.size+1≠w.heap.size;omega) (.slice A3 n3 c3);have hL2:=zLz (g:=w.heap.size) (i:=1) (v:=.slice A3 n3 c3) hL (by omega);have hb2:=hb0.setCell (p:=⟨w.heap.size,1,none⟩) (Ya _) (.slice A3 n3 c3);obtain ⟨t0,t1,t2⟩:=ka2.cells3;obtain ⟨y0,y1,y2⟩:=kb2.cells3;have g0:=kb2.frozen 0;have g1:=kb2.frozen 1;have g2:=kb2.frozen 2;have HL:=Zh hL2;have HB:=Zh hb2;have HK:=Zh kb2;have HZ:=Zh hsz;have HZ1:=Zh hsz1;clear hL hL2 hb0 hb2 ka ka2 kb kb2 hsz hsz1;go_wp2_with fail
 refine Yn (zHV Tryz.results92 rfl (HK.out.set3 _ _ _)) rfl ?_;have h1:=HZ.out;refine ⟨A3,n3,c3,rfl,?_,zAG HB.out (by omega) _ _ _⟩;exact (zLz (zLz (zLz HL.out (by omega)) (by omega)) (by omega)).up (Ya _) (by omega) (fun _ _ _=>rfl)
def zWT (m:List (List Dy)) (w:World) (e:Ending) (w':World):Prop:=∃A c,e=.returned (.slice A m.length c)/\Ly w.heap.size w' (fun W=>Sl 1 RM W A m.length c m)/\Below w.heap.size w w'
theorem zF5 (A:Option Addr) (n c:Nat) (m:List (List Dy)) (w:World) (h:Sl 1 RM w A n c m) (hx:∀l∈m,∀d∈l,Bd d) (hn:n<=1000) (hl:∀l∈m,l.length<=1000):Calls Tryz.prog 94 #[.slice A n c] w (zWT m w):=by
 have m1:=h.cap;have m2:=h.max;have HL:=Zh h.len;have HS:=Zh h;have HX:=Zh hx;have HLL:=Zh hl;clear h hx hl;go_enter Tryz.func94,Tryz.ntmps94
 go_wp2_with fail
 go_loopw [3,11] (fun v i wr=>∃ (k:Nat) (fs:List (List Value)),k<=n/\i=.int .i64 k/\Hid (Acc 22 1 RM w.heap.size w.heap.size wr v fs (m.take k))/\Hid (Below w.heap.size w wr)) (fun _ i _=>n - (intOf i).toNat)
 case atStart=>exact ⟨0,[],by omega,rfl,Acc.nil _ _ _ (Ya _) _,Yp _ _⟩
 case round=>
  obtain ⟨k,fs,hk,rfl,HA,HB⟩:=hrel;by_cases hlt:k<n
  ·obtain ⟨b,off,r,vs,rfl,hbl,hd,hk1,hRR,hc⟩:=HS.out.get hlt
   have HXr:=Zh (HX.out r (Yk hd));have hrl:=HLL.out r (Yk hd);have HT:Hid (m.take (k+1)=m.take k++[r]):=by unfold Hid;rw [List.take_add_one,hd];rfl
   obtain ⟨A1,n1,c1,rfl,hs⟩:=hRR;have qt:=hc 0 _ rfl;rw [Nat.mul_one,Nat.add_zero] at qt;have q0:=(HB.out.cell (p:=⟨b,off+k,none⟩) hbl).trans qt;have HS1:=Zh hs;have hn1:n1<=1000:=by rw [<- hs.len];exact hrl
   have HL1:=Zh hs.len;have m3:=hs.cap;have m4:=hs.max;clear hc qt hk1 hd hrl hs;go_wp2_with fail
   clear q0;generalize wr=Wo at *
   go_loopw [6,17] (fun v i wr=>∃ (j:Nat) (gs:List (List Value)),j<=n1/\i=.int .i64 j/\Hid (Acc 41 3 RD Wo.heap.size Wo.heap.size wr v gs (r.take j))/\Hid (Below Wo.heap.size Wo wr)) (fun _ i _=>n1 - (intOf i).toNat)
   case atStart=>exact ⟨0,[],by omega,rfl,Acc.nil _ _ _ (Ya _) _,Yp _ _⟩
   case round=>
    obtain ⟨j,gs,hj,rfl,HA1,HB1⟩:=hrel;by_cases hlt1:j<n1
    ·obtain ⟨b1,off1,d,us,rfl,hbl1,hd1,hk2,hR1,hc1⟩:=HS1.out.get hlt1
     have HBd:=Zh (HXr.out d (Yk hd1));have HT1:Hid (r.take (j+1)=r.take j++[d]):=by unfold Hid;rw [List.take_add_one,hd1];rfl
     have hbw:=zAt HB.out HB1.out (Ya _);have HR1:=Zh (fun W (hW:Below wr.heap.size wr W)=>zAQ _ _ _ _ hR1 (zAt hbw hW (Ya _)));obtain ⟨DA,dm,dc,rfl,hsd⟩:=hR1;have p0:=(hbw.cell (p:=⟨b1,off1+j*3,none⟩) hbl1).trans (hc1 0 _ rfl);have p1:=(hbw.cell (p:=⟨b1,off1+j*3+1,none⟩) hbl1).trans (hc1 1 _ rfl);have p2:=(hbw.cell (p:=⟨b1,off1+j*3+2,none⟩) hbl1).trans (hc1 2 _ rfl);clear hd1 hc1 hk2 hsd hbw;have hb1:=zAE wr (.cells #[.bool d.neg,.slice DA dm dc,.int .i64 d.e] 41);have HC:=Zh (zCm _ d _ (HR1.out _ hb1) HBd.out);go_wp2_with fail
     refine HC.out.mono ?_;rintro e w2 ⟨NA,nn,nc,rfl,hly,hb2⟩
     have hbA:=zAA hb1 hb2;have hfl:gs.length<=1000:=by have:=HA1.out.len;rw [Yr] at this;omega
     have hb3:=zAE w2 (.cells #[.bool d.neg,.slice NA nn nc,.int .i64 d.e] 41);have HLY:=Zh (hly.up (Nat.le_of_lt (by simp:w2.heap.size<(w2.alloc (.cells #[.bool d.neg,.slice NA nn nc,.int .i64 d.e] 41)).heap.size)) hb1.size (fun b _ hb=>hb3.block b hb));have hbB:=zAA hbA hb3;have HA2:=Zh (HA1.out.keep hbB.size (fun b _ hb=>hbB.block b hb));have HOW:Hid (∀o,_=some o->o<wr.heap.size\/w2.heap.size+1<=o):=fun o ho=>.inl (HA1.out.own.lt o ho).2
     have HBB:=Zh hbB;have hs1:=HB1.out.size;have hs2:=hbA.size;clear p0 p1 p2 hb1 hb2 hbA hb3 hly hbB
     go_wp2_with (at_builtin;go_loud (refine zIK rfl _ _ 22 rfl 41 3 40 _ zQF rfl (by omega) (by omega) Tryz.underlying22 Wo.heap.size Wo.heap.size _ gs (r.take j) rfl HA2.out ⟨w2.heap.size,0,none⟩ 1 [.bool d.neg,.slice NA nn nc,.int .i64 d.e] d rfl rfl ?c1 ?c2 ?c3 ?c4 wr.heap.size (w2.heap.size+1) ?c5 ?c6 HOW.out ?c7 ?_))
     case c1=>
      intro j u hj;rw [zEM]
      match j,hj with
      | 0,hj=>simp at hj;subst hj;simp
      | 1,hj=>simp at hj;subst hj;simp
      | 2,hj=>simp at hj;subst hj;simp
      | n+3,hj=>simp at hj
     case c2=>intro u hu;simp at hu;rcases hu with rfl | rfl | rfl <;> rfl
     case c3=>omega
     case c4=>simp;omega
     case c5=>omega
     case c6=>simp
     case c7=>exact fun W h1 h2=>⟨NA,nn,nc,rfl,HLY.out W (by simpa using h1) (fun b hb1 hb2=>h2 b hb1 (by simpa using hb2))⟩
     intro v' w3 hacc hb4;have HA3:=Zh hacc;have HB3:=Zh ((zAA HB1.out HBB.out).trans hb4);clear hacc hb4;go_wp2_with fail
     go_roundw
     case rel=>exact ⟨j+1,_,by omega,by go_num,by unfold Hid;rw [HT1.out];exact HA3.out,HB3⟩
     case measure=>simp [intOf];omega
    ·obtain rfl:j=n1:=by omega
     have hrn:r.take j=r:=Xd (by rw [HL1.out];exact Ya _);rw [hrn] at HA1;obtain ⟨A3,c3,rfl,hly⟩:=HA1.out.ly;have hs1:=HB1.out.size;have hs0:=HB.out.size;have hfl:fs.length<=1000:=by have:=HA.out.len;rw [Yr] at this;omega
     have hb3:=zAE wr (.cells #[.slice A3 r.length c3] 22);have hbB:=zAA HB1.out hb3;have HLY:=Zh (hly.up (Nat.le_of_lt (by simp:wr.heap.size<(wr.alloc (.cells #[.slice A3 r.length c3] 22)).heap.size)) (Ya _) (fun b _ hb=>hb3.block b hb));have HA2:=Zh (HA.out.keep hbB.size (fun b _ hb=>hbB.block b hb));have HOW:Hid (∀o,_=some o->o<Wo.heap.size\/wr.heap.size+1<=o):=fun o ho=>.inl (HA.out.own.lt o ho).2
     have HBB:=Zh hbB;clear hb3 hbB hly
     go_wp2_with (at_builtin;go_loud (refine zIK rfl _ _ 23 rfl 22 1 24 _ zcX rfl (by omega) (by omega) Tryz.underlying23 w.heap.size w.heap.size _ fs (m.take k) rfl HA2.out ⟨wr.heap.size,0,none⟩ 1 [.slice A3 r.length c3] r rfl rfl ?c1 ?c2 ?c3 ?c4 Wo.heap.size (wr.heap.size+1) ?c5 ?c6 HOW.out ?c7 ?_))
     case c1=>
      intro j u hj;rw [zEM]
      match j,hj with
      | 0,hj=>simp at hj;subst hj;simp
      | n+1,hj=>simp at hj
     case c2=>intro u hu;simp at hu;subst hu;rfl
     case c3=>omega
     case c4=>simp;omega
     case c5=>omega
     case c6=>simp
     case c7=>exact fun W h1 h2=>⟨A3,r.length,c3,rfl,HLY.out W (by simpa using h1) (fun b hb1 hb2=>h2 b hb1 (by simpa using hb2))⟩
     intro v' w3 hacc hb4;have HA3:=Zh hacc;have HB3:=Zh ((zAA HB.out HBB.out).trans hb4);clear hacc hb4;go_wp2_with fail
     go_roundw
     case rel=>exact ⟨k+1,_,by omega,by go_num,by unfold Hid;rw [HT.out];exact HA3.out,HB3⟩
     case measure=>simp [intOf];omega
  ·obtain rfl:k=n:=by omega
   have hmn:m.take k=m:=Xd (by rw [HL.out];exact Ya _);rw [hmn] at HA;go_wp2_with fail
   go_ret;obtain ⟨A3,c3,rfl,hly⟩:=HA.out.ly;exact ⟨A3,c3,rfl,hly,HB.out⟩
def zhG (xs:List Iv) (w:World) (e:Ending) (w':World):Prop:=∃v fs,e=.returned v/\Acc 43 7 RI w.heap.size w.heap.size w' v fs xs/\Below w.heap.size w w'
theorem zEU (A:Option Addr) (n c:Nat) (xs:List Iv) (w:World) (h:Sl 7 RI w A n c xs) (hx:∀x∈xs,BdI x) (hn:n<=1000):Calls Tryz.prog 93 #[.slice A n c] w (zhG xs w):=by
 have m1:=h.cap;have m2:=h.max;have HL:=Zh h.len;have HS:=Zh h;have HX:=Zh hx;clear h hx;go_enter Tryz.func93,Tryz.ntmps93
 go_wp2_with fail
 go_loopw [3,8] (fun v i wr=>∃ (k:Nat) (fs:List (List Value)),k<=n/\i=.int .i64 k/\Hid (Acc 43 7 RI w.heap.size w.heap.size wr v fs (xs.take k))/\Hid (Below w.heap.size w wr)) (fun _ i _=>n - (intOf i).toNat)
 case atStart=>exact ⟨0,[],by omega,rfl,Acc.nil _ _ _ (Ya _) _,Yp _ _⟩
 case round=>
  obtain ⟨k,fs,hk,rfl,HA,HB⟩:=hrel;by_cases hlt:k<n
  ·obtain ⟨b,off,x,vs,rfl,hbl,hd,hk1,hR,hc⟩:=HS.out.get hlt
   have HBd:=Zh (HX.out x (Yk hd));have HT:Hid (xs.take (k+1)=xs.take k++[x]):=by unfold Hid;rw [List.take_add_one,hd];rfl
   obtain ⟨A1,n1,c1,A2,n2,c2,rfl,hs1,hs2⟩:=hR;have q0:=(HB.out.cell (p:=⟨b,off+k*7,none⟩) hbl).trans (hc 0 _ rfl);have q1:=(HB.out.cell (p:=⟨b,off+k*7+1,none⟩) hbl).trans (hc 1 _ rfl);have q2:=(HB.out.cell (p:=⟨b,off+k*7+2,none⟩) hbl).trans (hc 2 _ rfl);have q3:=(HB.out.cell (p:=⟨b,off+k*7+3,none⟩) hbl).trans (hc 3 _ rfl);have q4:=(HB.out.cell (p:=⟨b,off+k*7+4,none⟩) hbl).trans (hc 4 _ rfl);have q5:=(HB.out.cell (p:=⟨b,off+k*7+5,none⟩) hbl).trans (hc 5 _ rfl);have q6:=(HB.out.cell (p:=⟨b,off+k*7+6,none⟩) hbl).trans (hc 6 _ rfl);have hb1:=zAE wr (.cells #[.bool x.lo.neg,.slice A1 n1 c1,.int .i64 x.lo.e,.bool x.hi.neg,.slice A2 n2 c2,.int .i64 x.hi.e,.bool x.all] 43);have H1:=Zh (fun W (hW:Below (wr.alloc (.cells #[.bool x.lo.neg,.slice A1 n1 c1,.int .i64 x.lo.e,.bool x.hi.neg,.slice A2 n2 c2,.int .i64 x.hi.e,.bool x.all] 43)).heap.size (wr.alloc (.cells #[.bool x.lo.neg,.slice A1 n1 c1,.int .i64 x.lo.e,.bool x.hi.neg,.slice A2 n2 c2,.int .i64 x.hi.e,.bool x.all] 43)) W)=>zCm [.bool x.lo.neg,.slice A1 n1 c1,.int .i64 x.lo.e] x.lo W ⟨A1,n1,c1,rfl,(hs1.below (zAt HB.out hb1 (Ya _))).below hW⟩ HBd.out.1);have H2:=Zh (fun W (hW:Below (wr.alloc (.cells #[.bool x.lo.neg,.slice A1 n1 c1,.int .i64 x.lo.e,.bool x.hi.neg,.slice A2 n2 c2,.int .i64 x.hi.e,.bool x.all] 43)).heap.size (wr.alloc (.cells #[.bool x.lo.neg,.slice A1 n1 c1,.int .i64 x.lo.e,.bool x.hi.neg,.slice A2 n2 c2,.int .i64 x.hi.e,.bool x.all] 43)) W)=>zCm [.bool x.hi.neg,.slice A2 n2 c2,.int .i64 x.hi.e] x.hi W ⟨A2,n2,c2,rfl,(hs2.below (zAt HB.out hb1 (Ya _))).below hW⟩ HBd.out.2);have hkx:=Blk.new wr 43 #[.bool x.lo.neg,.slice A1 n1 c1,.int .i64 x.lo.e,.bool x.hi.neg,.slice A2 n2 c2,.int .i64 x.hi.e,.bool x.all];have HK:Hid (∀V,Below (wr.alloc (.cells #[.bool x.lo.neg,.slice A1 n1 c1,.int .i64 x.lo.e,.bool x.hi.neg,.slice A2 n2 c2,.int .i64 x.hi.e,.bool x.all] 43)).heap.size (wr.alloc (.cells #[.bool x.lo.neg,.slice A1 n1 c1,.int .i64 x.lo.e,.bool x.hi.neg,.slice A2 n2 c2,.int .i64 x.hi.e,.bool x.all] 43)) V->(fun W=>Blk W wr.heap.size 43 #[.bool x.lo.neg,.slice A1 n1 c1,.int .i64 x.lo.e,.bool x.hi.neg,.slice A2 n2 c2,.int .i64 x.hi.e,.bool x.all]) V):=fun V hV=>hkx.next hV
   have HB1:=Zh hb1;have hz1:(wr.alloc (.cells #[.bool x.lo.neg,.slice A1 n1 c1,.int .i64 x.lo.e,.bool x.hi.neg,.slice A2 n2 c2,.int .i64 x.hi.e,.bool x.all] 43)).heap.size=wr.heap.size+1:=by simp
   clear hc hk1 hd hs1 hs2 hb1 hkx;go_wp2_with fail
   clear q0 q1 q2 q3 q4 q5 q6;generalize wr.alloc (.cells #[.bool x.lo.neg,.slice A1 n1 c1,.int .i64 x.lo.e,.bool x.hi.neg,.slice A2 n2 c2,.int .i64 x.hi.e,.bool x.all] 43)=W0 at *;have hB:=zBw W0;refine wp_region_held_drew (S:=(fun W=>Blk W wr.heap.size 43 #[.bool x.lo.neg,.slice A1 n1 c1,.int .i64 x.lo.e,.bool x.hi.neg,.slice A2 n2 c2,.int .i64 x.hi.e,.bool x.all])) (by kernel_rfl) (HK.out _ hB) (fun hH=>?_);refine tk (i:=0) (oi:=⟨_,_,_,_,_,_⟩) (v:=?_) rfl (by rfl) ?_ hH ?_;rotate_left
   ·(intro w hSw;obtain ⟨p0,p1,p2,p3,p4,p5,p6⟩:=Blk.cells7 hSw;go_simp;try (with_reducible rfl))
   simp only [Act.put,sT,sZ,sS];refine tk (i:=1) (oi:=⟨_,_,_,_,_,_⟩) (v:=?_) rfl (by rfl) ?_ hH ?_;rotate_left
   ·(intro w hSw;obtain ⟨p0,p1,p2,p3,p4,p5,p6⟩:=Blk.cells7 hSw;go_simp;try (with_reducible rfl))
   simp only [Act.put,sT,sZ,sS];refine tk (i:=2) (oi:=⟨_,_,_,_,_,_⟩) (v:=?_) rfl (by rfl) ?_ hH ?_;rotate_left
   ·(intro w hSw;obtain ⟨p0,p1,p2,p3,p4,p5,p6⟩:=Blk.cells7 hSw;go_simp;try (with_reducible rfl))
   simp only [Act.put,sT,sZ,sS];refine tk (i:=4) (oi:=⟨_,_,_,_,_,_⟩) (v:=?_) rfl (by rfl) ?_ hH ?_;rotate_left
   ·(intro w hSw;obtain ⟨p0,p1,p2,p3,p4,p5,p6⟩:=Blk.cells7 hSw;go_simp;try (with_reducible rfl))
   simp only [Act.put,sT,sZ,sS];refine tk (i:=5) (oi:=⟨_,_,_,_,_,_⟩) (v:=?_) rfl (by rfl) ?_ hH ?_;rotate_left
   ·(intro w hSw;obtain ⟨p0,p1,p2,p3,p4,p5,p6⟩:=Blk.cells7 hSw;go_simp;try (with_reducible rfl))
   simp only [Act.put,sT,sZ,sS];refine tk (i:=7) (oi:=⟨_,_,_,_,_,_⟩) (v:=?_) rfl (by rfl) ?_ hH ?_;rotate_left
   ·(intro w hSw;obtain ⟨p0,p1,p2,p3,p4,p5,p6⟩:=Blk.cells7 hSw;go_simp;try (with_reducible rfl))
   simp only [Act.put,sT,sZ,sS];refine tk (i:=8) (oi:=⟨_,_,_,_,_,_⟩) (v:=?_) rfl (by rfl) ?_ hH ?_;rotate_left
   ·(intro w hSw;obtain ⟨p0,p1,p2,p3,p4,p5,p6⟩:=Blk.cells7 hSw;go_simp;try (with_reducible rfl))
   simp only [Act.put,sT,sZ,sS];refine Yj (rs:=[3]) (by kernel_rfl) (by simp) ?_;refine Yc (o:=⟨_,_,_,_,_,_⟩) rfl (fun K hK=>?_) Yd
   go_simp
   refine (H1.out _ hB).mono ?_;rintro e V1 ⟨NA,nn,nc,rfl,hly1,hc⟩
   have HLy1:=Zh hly1;have HS1:=Zh hc;have hB1:=hB.size;replace hB:=zAA hB hc;have HKp:=Zh (HK.out _ hB);clear hc hly1;go_wp2_with fail
   refine hK.out _ _ (HKp.out) (fun hH=>?_);clear hK K;refine Yj (rs:=[6]) (by kernel_rfl) (by simp) ?_;refine Yc (o:=⟨_,_,_,_,_,_⟩) rfl (fun K hK=>?_) Yd
   go_simp
   refine (H2.out _ hB).mono ?_;rintro e V2 ⟨MA,mn,mc,rfl,hly2,hc⟩
   have HLy2:=Zh hly2;have HS2:=Zh hc;have hB2:=hB.size;replace hB:=zAA hB hc;have HKp:=Zh (HK.out _ hB);clear hc hly2;go_wp2_with fail
   refine hK.out _ _ (HKp.out) (fun hH=>?_);clear hK K;refine tk (i:=9) (oi:=⟨_,_,_,_,_,_⟩) (v:=?_) rfl (by rfl) ?_ hH ?_;rotate_left
   ·(intro w hSw;obtain ⟨p0,p1,p2,p3,p4,p5,p6⟩:=Blk.cells7 hSw;go_simp;try (with_reducible rfl))
   simp only [Act.put,sT,sZ,sS];refine Yj (rs:=[10]) (by kernel_rfl) (by simp) ?_;refine Yc (o:=⟨_,_,_,_,_,_⟩) rfl (fun K hK=>?_) Yd
   go_simp
   have HZ:=Zh hB.size;have hn1:=zAE V2 (.cells #[.bool x.lo.neg,.slice NA nn nc,.int .i64 x.lo.e,.bool x.hi.neg,.slice MA mn mc,.int .i64 x.hi.e,.bool x.all] 43);have HNB:Hid (Blk (V2.alloc (.cells #[.bool x.lo.neg,.slice NA nn nc,.int .i64 x.lo.e,.bool x.hi.neg,.slice MA mn mc,.int .i64 x.hi.e,.bool x.all] 43)) V2.heap.size 43 #[.bool x.lo.neg,.slice NA nn nc,.int .i64 x.lo.e,.bool x.hi.neg,.slice MA mn mc,.int .i64 x.hi.e,.bool x.all]):=Blk.new V2 _ _;have hsx:(V2.alloc (.cells #[.bool x.lo.neg,.slice NA nn nc,.int .i64 x.lo.e,.bool x.hi.neg,.slice MA mn mc,.int .i64 x.hi.e,.bool x.all] 43)).heap.size=V2.heap.size+1:=by simp
   have HHV2:=Zh hB;replace hB:=zAA hB hn1;have HN1:=Zh hn1;replace HKp:=Zh (HK.out _ hB);clear hn1;generalize (V2.alloc (.cells #[.bool x.lo.neg,.slice NA nn nc,.int .i64 x.lo.e,.bool x.hi.neg,.slice MA mn mc,.int .i64 x.hi.e,.bool x.all] 43))=wX at *;refine hK.out _ _ (HKp.out) (fun hH=>?_);clear hK K;refine Yj (rs:=[11]) (by kernel_rfl) (by simp) ?_;refine Yc (o:=⟨_,_,_,_,_,_⟩) rfl (fun K hK=>?_) Yd;have hzA:=HB.out.size;have hzB:=HB1.out.size;have hzC:=HS1.out.size;have hzD:=HS2.out.size;have hbB:=zAA HB1.out hB;have HA2:=Zh (HA.out.keep hbB.size (fun b _ hb=>hbB.block b hb));have HOW:Hid (∀o,_=some o->o<W0.heap.size\/V2.heap.size<=o):=fun o ho=>.inl (by have:=(HA.out.own.lt o ho).2;omega)
   have hfl:fs.length<=1000:=by have:=HA.out.len;rw [Yr] at this;omega
   refine zGL rfl _ _ 24 rfl 43 7 88 _ zQG rfl (by omega) (by omega) Tryz.underlying24 w.heap.size w.heap.size _ fs (xs.take k) rfl HA2.out ⟨V2.heap.size,0,none⟩ 1 [.bool x.lo.neg,.slice NA nn nc,.int .i64 x.lo.e,.bool x.hi.neg,.slice MA mn mc,.int .i64 x.hi.e,.bool x.all] x rfl rfl ?c1 ?c2 ?c3 ?c4 W0.heap.size V2.heap.size ?c5 ?c6 HOW.out ?c7 ?_
   case c1=>
    intro j u hj;rw [zEM,Blk.cell HNB.out]
    simpa using hj
   case c2=>intro u hu;simp at hu;rcases hu with rfl | rfl | rfl | rfl | rfl | rfl | rfl <;> rfl
   case c3=>omega
   case c4=>have:=hbB.size;omega
   case c5=>omega
   case c6=>omega
   case c7=>
    intro W h1 h2;have e1:=HLy1.out W (by omega) (fun b hb1 hb2=>(h2 b (by omega) (by omega)).trans ((HN1.out.block b (by omega)).trans (HS2.out.block b hb2)));have e2:=HLy2.out W (by omega) (fun b hb1 hb2=>(h2 b (by omega) hb2).trans (HN1.out.block b hb2));exact ⟨_,_,_,_,_,_,rfl,e1,e2⟩
   intro v' w3 hacc hb3 hg3;have HA3:=Zh hacc;have HB3:=Zh ((zAA HB.out hbB).trans hb3);replace HKp:=Zh ((hg3.block wr.heap.size (by omega) (fun e=>by have:=(HA.out.own.lt _ e.symm).2;omega)).trans HKp.out);clear hacc hb3 hbB hg3;refine hK.out _ _ (HKp.out) (fun hH=>?_);clear hK K;refine Yj (rs:=[12]) (by kernel_rfl) (by simp) ?_;refine Yc (o:=⟨_,_,_,_,_,_⟩) rfl (fun K hK=>?_) Yd
   go_simp
   skip
   refine hK.out _ _ (HKp.out) (fun hH=>?_);clear hK K;refine wpAnyH_done (by kernel_rfl) ?_ _;go_wp2_with fail
   go_roundw
   case rel=>exact ⟨k+1,_,by omega,by go_num,by unfold Hid;rw [HT.out];exact HA3.out,HB3⟩
   case measure=>simp [intOf];omega
  ·obtain rfl:k=n:=by omega
   have hmn:xs.take k=xs:=Xd (by rw [HL.out];exact Ya _);rw [hmn] at HA;go_wp2_with fail
   go_ret;exact ⟨_,_,rfl,HA.out,HB.out⟩
theorem zOF {x:Iv}(h:ivV x=true) (ha:x.all=false):vld x.lo=true/\vld x.hi=true:=by
 unfold ivV at h;rw [ha] at h;simp only [Bool.false_eq_true,if_false,Yi] at h;exact h.1
theorem zI4 {W:World}{A:Option Addr}{n c:Nat}{l:List Dy}(h:Sl 3 RD W A n c l):∀d∈l,zAV d.l:=by
 intro d hd;obtain ⟨j,hj⟩:=List.getElem?_of_mem hd;have hlt:j<n:=by have:=(Yb.1 hj).1;have:=h.len;omega
 obtain ⟨b,off,x,vs,_,_,hx,_,⟨A1,n1,c1,_,hs⟩,_⟩:=h.get hlt;rw [hj] at hx;injection hx with hx
 rw [hx];exact hs.lt
theorem zFI {W:World}{A:Option Addr}{n c:Nat}{m:List (List Dy)}(h:Sl 1 RM W A n c m):∀l∈m,∀d∈l,zAV d.l:=by
 intro l hl;obtain ⟨j,hj⟩:=List.getElem?_of_mem hl;have hlt:j<n:=by have:=(Yb.1 hj).1;have:=h.len;omega
 obtain ⟨b,off,x,vs,_,_,hx,_,⟨A1,n1,c1,_,hs⟩,_⟩:=h.get hlt;rw [hj] at hx;injection hx with hx
 rw [hx];exact zI4 hs
theorem zN6 {f:Fr}(h:frV f=true):∀l∈f.a,∀d∈l,vld d=true:=by
 unfold frV at h;simp only [Yi,Bool.not_eq_true',List.any_eq_false,Bool.or_eq_true,not_or] at h;intro l hl d hd;have:=(h.1.2 l hl).2;rw [Bool.not_eq_true,List.any_eq_false] at this;have h2:=this d hd
 simpa using h2
def cz (d d':Dy):Bool:=decide (zCH d d' = 0)
def enN (l l':List Dy):Bool:=eqF cz l l'
def enR (m m':List (List Dy)):Bool:=eqF enN m m'
def ins (x y:Iv):Bool:=ivV x && ivV y && (y.all || (!x.all && decide (zCH y.lo x.lo<=0) && decide (zCH x.hi y.hi<=0)))
def ivE (x y:Iv):Bool:=ins x y && ins y x
def enF (f g:Fr):Bool:=enN f.c g.c && enR f.a g.a && eqF ivE f.r g.r
def bxE (a b:List Iv):Bool:=zEO a && zEO b && decide (a.length=b.length) && eqF ivE a b
def lkE (x y:Lk):Bool:=cz x.h y.h && bxE x.tube y.tube && enF x.e y.e && enR x.v y.v
def ctE (x y:Ct):Bool:=ctV x && ctV y && decide (x.prec=y.prec) && decide (x.order=y.order) && enF x.start y.start && eqF lkE x.links y.links
theorem zHZ (vs us:List Value) (x y:Dy) (w:World) (h:RD w vs x) (h':RD w us y) (hx:Bd x) (hy:Bd y):Calls Tryz.prog 244 (#[.agg vs.toArray,.agg us.toArray]++#[]) w (zBW (cz x y) w):=by
 rw [Array.append_empty];obtain ⟨aA,asz,ac,rfl,ha⟩:=h;obtain ⟨an,al,ae⟩:=x;dsimp only at ha ⊢;have ra:RD w [.bool an,.slice aA asz ac,.int .i64 ae] ⟨an,al,ae⟩:=⟨aA,asz,ac,rfl,ha⟩;have Ra:=Zh (fun W hb=>zAQ w W _ _ ra hb);clear ha ra;obtain ⟨bA,bsz,bc,rfl,hb⟩:=h';obtain ⟨bn,bl,be⟩:=y;dsimp only at hb ⊢;have rb:RD w [.bool bn,.slice bA bsz bc,.int .i64 be] ⟨bn,bl,be⟩:=⟨bA,bsz,bc,rfl,hb⟩;have Rb:=Zh (fun W hb=>zAQ w W _ _ rb hb);clear hb rb;have HV:Hid (cz ⟨an,al,ae⟩ ⟨bn,bl,be⟩=decide (zCH ⟨an,al,ae⟩ ⟨bn,bl,be⟩=0)):=rfl;have HX:=Zh hx;have HY:=Zh hy;clear hx hy;have hb0:=zAA (zAE w (.cells #[.bool an,.slice aA asz ac,.int .i64 ae] 41)) (zAE (w.alloc (.cells #[.bool an,.slice aA asz ac,.int .i64 ae] 41)) (.cells #[.bool bn,.slice bA bsz bc,.int .i64 be] 41));have ka:=(Blk.new w 41 #[.bool an,.slice aA asz ac,.int .i64 ae]).next (zAE (w.alloc (.cells #[.bool an,.slice aA asz ac,.int .i64 ae] 41)) (.cells #[.bool bn,.slice bA bsz bc,.int .i64 be] 41));have kb:Blk ((w.alloc (.cells #[.bool an,.slice aA asz ac,.int .i64 ae] 41)).alloc (.cells #[.bool bn,.slice bA bsz bc,.int .i64 be] 41)) (w.heap.size+1) 41 #[.bool bn,.slice bA bsz bc,.int .i64 be]:=Blk.newAt _ _ _ (by simp);go_enter Tryz.func244,Tryz.ntmps244
 go_wp2_with fail
 generalize ((w.alloc (.cells #[.bool an,.slice aA asz ac,.int .i64 ae] 41)).alloc (.cells #[.bool bn,.slice bA bsz bc,.int .i64 be] 41))=W0 at *;clear ka kb;refine (zIW _ _ _ _ _ (Ra.out _ hb0) (Rb.out _ hb0) HX.out HY.out).mono ?_;rintro e w1 ⟨rfl,hb1x⟩
 replace hb0:=zAA hb0 hb1x;clear hb1x;generalize zCH ⟨an,al,ae⟩ ⟨bn,bl,be⟩=r at *;go_wp2_with fail
 go_ret;exact ⟨by rw [HV.out];rfl,hb0⟩
theorem zEw (A B:Option Addr) (n c m d:Nat) (l l':List Dy) (w:World) (h:Sl 3 RD w A n c l) (h':Sl 3 RD w B m d l') (hx:∀d∈l,Bd d) (hy:∀d∈l',Bd d):Calls Tryz.prog 179 #[.slice A n c,.slice B m d] w (zBW (enN l l') w):=by
 have HC:=Zh (show Calls _ _ _ _ (zBW (enN l l') w) from zKs cz 244 #[] A B n c m d l l' w h h' (zCQ Tryz.func244 (by kernel_rfl) rfl) (fun W vs us x y _ hm hm' hr hr'=>zHZ vs us x y W hr hr' (hx x hm) (hy y hm')));clear h h' hx hy;go_enter Tryz.func179,Tryz.ntmps179
 go_wp2_with fail
 refine HC.out.mono ?_;rintro e w1 ⟨rfl,hb0⟩
 generalize enN l l' = r at *;go_wp2_with fail
 go_ret;exact ⟨rfl,hb0⟩
theorem zKr (vs us:List Value) (x y:List Dy) (w:World) (h:RM w vs x) (h':RM w us y) (hx:∀d∈x,Bd d) (hy:∀d∈y,Bd d):Calls Tryz.prog 179 (#[(vs[0]?).getD undef,(us[0]?).getD undef]++#[]) w (zBW (enN x y) w):=by
 rw [Array.append_empty];obtain ⟨A,n,c,rfl,hs⟩:=h;obtain ⟨B,m,d,rfl,hs'⟩:=h';exact zEw A B n c m d x y w hs hs' hx hy
theorem zHt (A B:Option Addr) (n c m d:Nat) (l l':List (List Dy)) (w:World) (h:Sl 1 RM w A n c l) (h':Sl 1 RM w B m d l') (hx:∀a∈l,∀d∈a,Bd d) (hy:∀a∈l',∀d∈a,Bd d):Calls Tryz.prog 109 #[.slice A n c,.slice B m d] w (zBW (enR l l') w):=by
 have HC:=Zh (show Calls _ _ _ _ (zBW (enR l l') w) from zKv enN 179 #[] A B n c m d l l' w h h' (zCQ Tryz.func179 (by kernel_rfl) rfl) (fun W vs us x y _ hm hm' hr hr'=>zKr vs us x y W hr hr' (hx x hm) (hy y hm')));clear h h' hx hy;go_enter Tryz.func109,Tryz.ntmps109
 go_wp2_with fail
 refine HC.out.mono ?_;rintro e w1 ⟨rfl,hb0⟩
 generalize enR l l' = r at *;go_wp2_with fail
 go_ret;exact ⟨rfl,hb0⟩
theorem zHy (vs us:List Value) (x y:Iv) (w:World) (h:RI w vs x) (h':RI w us y) (hx:BdI x) (hy:BdI y):Calls Tryz.prog 66 #[.agg vs.toArray,.agg us.toArray] w (zBW (ins x y) w):=by
 obtain ⟨xA,xs,xc,xB,xm,xd,rfl,hx1,hx2⟩:=h;obtain ⟨⟨xln,xll,xle⟩,⟨xun,xul,xue⟩,xa⟩:=x;dsimp only at hx1 hx2 ⊢;have rx:RI w [.bool xln,.slice xA xs xc,.int .i64 xle,.bool xun,.slice xB xm xd,.int .i64 xue,.bool xa] ⟨⟨xln,xll,xle⟩,⟨xun,xul,xue⟩,xa⟩:=⟨xA,xs,xc,xB,xm,xd,rfl,hx1,hx2⟩;have rx1:RD w [.bool xln,.slice xA xs xc,.int .i64 xle] ⟨xln,xll,xle⟩:=⟨xA,xs,xc,rfl,hx1⟩;have rx2:RD w [.bool xun,.slice xB xm xd,.int .i64 xue] ⟨xun,xul,xue⟩:=⟨xB,xm,xd,rfl,hx2⟩;have Rx:=Zh (fun W hb=>zAX w W _ _ rx hb);have Rx1:=Zh (fun W hb=>zAQ w W _ _ rx1 hb);have Rx2:=Zh (fun W hb=>zAQ w W _ _ rx2 hb);clear hx1 hx2 rx rx1 rx2;obtain ⟨yA,ys,yc,yB,ym,yd,rfl,hy1,hy2⟩:=h';obtain ⟨⟨yln,yll,yle⟩,⟨yun,yul,yue⟩,ya⟩:=y;dsimp only at hy1 hy2 ⊢;have ry:RI w [.bool yln,.slice yA ys yc,.int .i64 yle,.bool yun,.slice yB ym yd,.int .i64 yue,.bool ya] ⟨⟨yln,yll,yle⟩,⟨yun,yul,yue⟩,ya⟩:=⟨yA,ys,yc,yB,ym,yd,rfl,hy1,hy2⟩;have ry1:RD w [.bool yln,.slice yA ys yc,.int .i64 yle] ⟨yln,yll,yle⟩:=⟨yA,ys,yc,rfl,hy1⟩;have ry2:RD w [.bool yun,.slice yB ym yd,.int .i64 yue] ⟨yun,yul,yue⟩:=⟨yB,ym,yd,rfl,hy2⟩;have Ry:=Zh (fun W hb=>zAX w W _ _ ry hb);have Ry1:=Zh (fun W hb=>zAQ w W _ _ ry1 hb);have Ry2:=Zh (fun W hb=>zAQ w W _ _ ry2 hb);clear hy1 hy2 ry ry1 ry2;have HV:Hid (ins ⟨⟨xln,xll,xle⟩,⟨xun,xul,xue⟩,xa⟩ ⟨⟨yln,yll,yle⟩,⟨yun,yul,yue⟩,ya⟩=(ivV ⟨⟨xln,xll,xle⟩,⟨xun,xul,xue⟩,xa⟩ && ivV ⟨⟨yln,yll,yle⟩,⟨yun,yul,yue⟩,ya⟩ && (ya || (!xa && decide (zCH ⟨yln,yll,yle⟩ ⟨xln,xll,xle⟩<=0) && decide (zCH ⟨xun,xul,xue⟩ ⟨yun,yul,yue⟩<=0))))):=rfl;have HX:=Zh hx;have HY:=Zh hy;clear hx hy;have hb0:=zAA (zAE w (.cells #[.bool xln,.slice xA xs xc,.int .i64 xle,.bool xun,.slice xB xm xd,.int .i64 xue,.bool xa] 43)) (zAE (w.alloc (.cells #[.bool xln,.slice xA xs xc,.int .i64 xle,.bool xun,.slice xB xm xd,.int .i64 xue,.bool xa] 43)) (.cells #[.bool yln,.slice yA ys yc,.int .i64 yle,.bool yun,.slice yB ym yd,.int .i64 yue,.bool ya] 43));have ka:=(Blk.new w 43 #[.bool xln,.slice xA xs xc,.int .i64 xle,.bool xun,.slice xB xm xd,.int .i64 xue,.bool xa]).next (zAE (w.alloc (.cells #[.bool xln,.slice xA xs xc,.int .i64 xle,.bool xun,.slice xB xm xd,.int .i64 xue,.bool xa] 43)) (.cells #[.bool yln,.slice yA ys yc,.int .i64 yle,.bool yun,.slice yB ym yd,.int .i64 yue,.bool ya] 43));have kb:Blk ((w.alloc (.cells #[.bool xln,.slice xA xs xc,.int .i64 xle,.bool xun,.slice xB xm xd,.int .i64 xue,.bool xa] 43)).alloc (.cells #[.bool yln,.slice yA ys yc,.int .i64 yle,.bool yun,.slice yB ym yd,.int .i64 yue,.bool ya] 43)) (w.heap.size+1) 43 #[.bool yln,.slice yA ys yc,.int .i64 yle,.bool yun,.slice yB ym yd,.int .i64 yue,.bool ya]:=Blk.newAt _ _ _ (by simp);go_enter Tryz.func66,Tryz.ntmps66
 go_wp2_with fail
 generalize ((w.alloc (.cells #[.bool xln,.slice xA xs xc,.int .i64 xle,.bool xun,.slice xB xm xd,.int .i64 xue,.bool xa] 43)).alloc (.cells #[.bool yln,.slice yA ys yc,.int .i64 yle,.bool yun,.slice yB ym yd,.int .i64 yue,.bool ya] 43))=W0 at *;refine (zD9 _ _ _ (Rx.out _ hb0) HX.out).mono ?_;rintro e w1 ⟨rfl,hb1x⟩
 replace hb0:=zAA hb0 hb1x;replace ka:=ka.next hb1x;replace kb:=kb.next hb1x;clear hb1x;cases hv1:ivV ⟨⟨xln,xll,xle⟩,⟨xun,xul,xue⟩,xa⟩
 ·rw [hv1] at HV
  clear hv1;go_wp2_with fail
  go_ret;exact ⟨by rw [HV.out];rfl,hb0⟩
 rw [hv1] at HV;clear hv1;obtain ⟨kaq0,kaq1,kaq2,kaq3,kaq4,kaq5,kaq6⟩:=ka.cells7;obtain ⟨kbq0,kbq1,kbq2,kbq3,kbq4,kbq5,kbq6⟩:=kb.cells7;go_wp2_with fail
 refine (zD9 _ _ _ (Ry.out _ hb0) HY.out).mono ?_;rintro e w2 ⟨rfl,hb2x⟩
 clear kaq0 kaq1 kaq2 kaq3 kaq4 kaq5 kaq6 kbq0 kbq1 kbq2 kbq3 kbq4 kbq5 kbq6;replace hb0:=zAA hb0 hb2x;replace ka:=ka.next hb2x;replace kb:=kb.next hb2x;clear hb2x;cases hv1:ivV ⟨⟨yln,yll,yle⟩,⟨yun,yul,yue⟩,ya⟩
 ·rw [hv1] at HV
  clear hv1;go_wp2_with fail
  go_ret;exact ⟨by rw [HV.out];rfl,hb0⟩
 rw [hv1] at HV;clear hv1;cases ya
 ·cases xa
  ·obtain ⟨kaq0,kaq1,kaq2,kaq3,kaq4,kaq5,kaq6⟩:=ka.cells7
   obtain ⟨kbq0,kbq1,kbq2,kbq3,kbq4,kbq5,kbq6⟩:=kb.cells7;go_wp2_with fail
   refine (zIW _ _ _ _ _ (Ry1.out _ hb0) (Rx1.out _ hb0) HY.out.1 HX.out.1).mono ?_;rintro e w3 ⟨rfl,hb3x⟩
   clear kaq0 kaq1 kaq2 kaq3 kaq4 kaq5 kaq6 kbq0 kbq1 kbq2 kbq3 kbq4 kbq5 kbq6;replace hb0:=zAA hb0 hb3x;replace ka:=ka.next hb3x;replace kb:=kb.next hb3x;clear hb3x;generalize zCH ⟨yln,yll,yle⟩ ⟨xln,xll,xle⟩=r1 at *;cases hv1:decide (r1<=0)
   ·rw [hv1] at HV
    go_wp2_with fail
    go_ret;exact ⟨by rw [HV.out];rfl,hb0⟩
   rw [hv1] at HV;obtain ⟨kaq0,kaq1,kaq2,kaq3,kaq4,kaq5,kaq6⟩:=ka.cells7;obtain ⟨kbq0,kbq1,kbq2,kbq3,kbq4,kbq5,kbq6⟩:=kb.cells7;go_wp2_with fail
   refine (zIW _ _ _ _ _ (Rx2.out _ hb0) (Ry2.out _ hb0) HX.out.2 HY.out.2).mono ?_;rintro e w4 ⟨rfl,hb4x⟩
   clear kaq0 kaq1 kaq2 kaq3 kaq4 kaq5 kaq6 kbq0 kbq1 kbq2 kbq3 kbq4 kbq5 kbq6;replace hb0:=zAA hb0 hb4x;replace ka:=ka.next hb4x;replace kb:=kb.next hb4x;clear hb4x;generalize zCH ⟨xun,xul,xue⟩ ⟨yun,yul,yue⟩=r2 at *;go_wp2_with fail
   go_ret;exact ⟨by rw [HV.out];rfl,hb0⟩
  ·obtain ⟨kaq0,kaq1,kaq2,kaq3,kaq4,kaq5,kaq6⟩:=ka.cells7
   obtain ⟨kbq0,kbq1,kbq2,kbq3,kbq4,kbq5,kbq6⟩:=kb.cells7;go_wp2_with fail
   go_ret;exact ⟨by rw [HV.out];rfl,hb0⟩
 ·obtain ⟨kaq0,kaq1,kaq2,kaq3,kaq4,kaq5,kaq6⟩:=ka.cells7
  obtain ⟨kbq0,kbq1,kbq2,kbq3,kbq4,kbq5,kbq6⟩:=kb.cells7;go_wp2_with fail
  go_ret;exact ⟨by rw [HV.out];rfl,hb0⟩
theorem zK7 (vs us:List Value) (x y:Iv) (w:World) (h:RI w vs x) (h':RI w us y) (hx:BdI x) (hy:BdI y):Calls Tryz.prog 22 (#[.agg vs.toArray,.agg us.toArray]++#[]) w (zBW (ivE x y) w):=by
 rw [Array.append_empty];obtain ⟨xA,xs,xc,xB,xm,xd,rfl,hx1,hx2⟩:=h;obtain ⟨⟨xln,xll,xle⟩,⟨xun,xul,xue⟩,xa⟩:=x;dsimp only at hx1 hx2 ⊢;have rx:RI w [.bool xln,.slice xA xs xc,.int .i64 xle,.bool xun,.slice xB xm xd,.int .i64 xue,.bool xa] ⟨⟨xln,xll,xle⟩,⟨xun,xul,xue⟩,xa⟩:=⟨xA,xs,xc,xB,xm,xd,rfl,hx1,hx2⟩;have rx1:RD w [.bool xln,.slice xA xs xc,.int .i64 xle] ⟨xln,xll,xle⟩:=⟨xA,xs,xc,rfl,hx1⟩;have rx2:RD w [.bool xun,.slice xB xm xd,.int .i64 xue] ⟨xun,xul,xue⟩:=⟨xB,xm,xd,rfl,hx2⟩;have Rx:=Zh (fun W hb=>zAX w W _ _ rx hb);have Rx1:=Zh (fun W hb=>zAQ w W _ _ rx1 hb);have Rx2:=Zh (fun W hb=>zAQ w W _ _ rx2 hb);clear hx1 hx2 rx rx1 rx2;obtain ⟨yA,ys,yc,yB,ym,yd,rfl,hy1,hy2⟩:=h';obtain ⟨⟨yln,yll,yle⟩,⟨yun,yul,yue⟩,ya⟩:=y;dsimp only at hy1 hy2 ⊢;have ry:RI w [.bool yln,.slice yA ys yc,.int .i64 yle,.bool yun,.slice yB ym yd,.int .i64 yue,.bool ya] ⟨⟨yln,yll,yle⟩,⟨yun,yul,yue⟩,ya⟩:=⟨yA,ys,yc,yB,ym,yd,rfl,hy1,hy2⟩;have ry1:RD w [.bool yln,.slice yA ys yc,.int .i64 yle] ⟨yln,yll,yle⟩:=⟨yA,ys,yc,rfl,hy1⟩;have ry2:RD w [.bool yun,.slice yB ym yd,.int .i64 yue] ⟨yun,yul,yue⟩:=⟨yB,ym,yd,rfl,hy2⟩;have Ry:=Zh (fun W hb=>zAX w W _ _ ry hb);have Ry1:=Zh (fun W hb=>zAQ w W _ _ ry1 hb);have Ry2:=Zh (fun W hb=>zAQ w W _ _ ry2 hb);clear hy1 hy2 ry ry1 ry2;have HV:Hid (ivE ⟨⟨xln,xll,xle⟩,⟨xun,xul,xue⟩,xa⟩ ⟨⟨yln,yll,yle⟩,⟨yun,yul,yue⟩,ya⟩=(ins ⟨⟨xln,xll,xle⟩,⟨xun,xul,xue⟩,xa⟩ ⟨⟨yln,yll,yle⟩,⟨yun,yul,yue⟩,ya⟩ && ins ⟨⟨yln,yll,yle⟩,⟨yun,yul,yue⟩,ya⟩ ⟨⟨xln,xll,xle⟩,⟨xun,xul,xue⟩,xa⟩)):=rfl;have HX:=Zh hx;have HY:=Zh hy;clear hx hy;have hb0:=zAA (zAE w (.cells #[.bool xln,.slice xA xs xc,.int .i64 xle,.bool xun,.slice xB xm xd,.int .i64 xue,.bool xa] 43)) (zAE (w.alloc (.cells #[.bool xln,.slice xA xs xc,.int .i64 xle,.bool xun,.slice xB xm xd,.int .i64 xue,.bool xa] 43)) (.cells #[.bool yln,.slice yA ys yc,.int .i64 yle,.bool yun,.slice yB ym yd,.int .i64 yue,.bool ya] 43));have ka:=(Blk.new w 43 #[.bool xln,.slice xA xs xc,.int .i64 xle,.bool xun,.slice xB xm xd,.int .i64 xue,.bool xa]).next (zAE (w.alloc (.cells #[.bool xln,.slice xA xs xc,.int .i64 xle,.bool xun,.slice xB xm xd,.int .i64 xue,.bool xa] 43)) (.cells #[.bool yln,.slice yA ys yc,.int .i64 yle,.bool yun,.slice yB ym yd,.int .i64 yue,.bool ya] 43));have kb:Blk ((w.alloc (.cells #[.bool xln,.slice xA xs xc,.int .i64 xle,.bool xun,.slice xB xm xd,.int .i64 xue,.bool xa] 43)).alloc (.cells #[.bool yln,.slice yA ys yc,.int .i64 yle,.bool yun,.slice yB ym yd,.int .i64 yue,.bool ya] 43)) (w.heap.size+1) 43 #[.bool yln,.slice yA ys yc,.int .i64 yle,.bool yun,.slice yB ym yd,.int .i64 yue,.bool ya]:=Blk.newAt _ _ _ (by simp);go_enter Tryz.func22,Tryz.ntmps22
 go_wp2_with fail
 generalize ((w.alloc (.cells #[.bool xln,.slice xA xs xc,.int .i64 xle,.bool xun,.slice xB xm xd,.int .i64 xue,.bool xa] 43)).alloc (.cells #[.bool yln,.slice yA ys yc,.int .i64 yle,.bool yun,.slice yB ym yd,.int .i64 yue,.bool ya] 43))=W0 at *;refine (zHy _ _ _ _ _ (Rx.out _ hb0) (Ry.out _ hb0) HX.out HY.out).mono ?_;rintro e w1 ⟨rfl,hb1x⟩
 replace hb0:=zAA hb0 hb1x;replace ka:=ka.next hb1x;replace kb:=kb.next hb1x;clear hb1x;cases hv1:ins ⟨⟨xln,xll,xle⟩,⟨xun,xul,xue⟩,xa⟩ ⟨⟨yln,yll,yle⟩,⟨yun,yul,yue⟩,ya⟩
 ·rw [hv1] at HV
  clear hv1;go_wp2_with fail
  go_ret;exact ⟨by rw [HV.out];rfl,hb0⟩
 rw [hv1] at HV;clear hv1;obtain ⟨kaq0,kaq1,kaq2,kaq3,kaq4,kaq5,kaq6⟩:=ka.cells7;obtain ⟨kbq0,kbq1,kbq2,kbq3,kbq4,kbq5,kbq6⟩:=kb.cells7;go_wp2_with fail
 refine (zHy _ _ _ _ _ (Ry.out _ hb0) (Rx.out _ hb0) HY.out HX.out).mono ?_;rintro e w2 ⟨rfl,hb2x⟩
 clear kaq0 kaq1 kaq2 kaq3 kaq4 kaq5 kaq6 kbq0 kbq1 kbq2 kbq3 kbq4 kbq5 kbq6;replace hb0:=zAA hb0 hb2x;replace ka:=ka.next hb2x;replace kb:=kb.next hb2x;clear hb2x;generalize ins ⟨⟨yln,yll,yle⟩,⟨yun,yul,yue⟩,ya⟩ ⟨⟨xln,xll,xle⟩,⟨xun,xul,xue⟩,xa⟩=r at *;go_wp2_with fail
 go_ret;exact ⟨by rw [HV.out];rfl,hb0⟩
theorem zFw (A B:Option Addr) (n c m d:Nat) (l l':List Iv) (w:World) (h:Sl 7 RI w A n c l) (h':Sl 7 RI w B m d l') (hx:∀x∈l,BdI x) (hy:∀x∈l',BdI x):Calls Tryz.prog 21 #[.slice A n c,.slice B m d,.func (.func 22) #[] #[]] w (zBW (eqF ivE l l') w):=
 zKt ivE 22 #[] A B n c m d l l' w h h' (zCQ Tryz.func22 (by kernel_rfl) rfl) (fun W vs us x y _ hm hm' hr hr'=>zK7 vs us x y W hr hr' (hx x hm) (hy y hm'))
theorem zFs (vs us:List Value) (x y:Fr) (w:World) (h:RF w vs x) (h':RF w us y) (hx:BdF x) (hy:BdF y):Calls Tryz.prog 105 #[.agg vs.toArray,.agg us.toArray] w (zBW (enF x y) w):=by
 obtain ⟨xA,xn,xc,xB,xm,xd,xC,xp,xq,rfl,hx1,hx2,hx3⟩:=h;obtain ⟨yA,yn,yc,yB,ym,yd,yC,yp,yq,rfl,hy1,hy2,hy3⟩:=h';have HV:Hid (enF x y=(enN x.c y.c && enR x.a y.a && eqF ivE x.r y.r)):=rfl;have H1:=Zh (fun W hb=>zEw xA yA xn xc yn yc x.c y.c W (hx1.next zAQ hb) (hy1.next zAQ hb) hx.c hy.c);have H2:=Zh (fun W hb=>zHt xB yB xm xd ym yd x.a y.a W (hx2.next zAh hb) (hy2.next zAh hb) hx.a hy.a);have H3:=Zh (fun W hb=>zFw xC yC xp xq yp yq x.r y.r W (hx3.next zAX hb) (hy3.next zAX hb) hx.r hy.r);clear hx1 hx2 hx3 hy1 hy2 hy3 hx hy;generalize enN x.c y.c=b1 at *;generalize enR x.a y.a=b2 at *;generalize eqF ivE x.r y.r=b3 at *;have hb0:=zAA (zAE w (.cells #[.slice xA xn xc,.slice xB xm xd,.slice xC xp xq] 26)) (zAE (w.alloc (.cells #[.slice xA xn xc,.slice xB xm xd,.slice xC xp xq] 26)) (.cells #[.slice yA yn yc,.slice yB ym yd,.slice yC yp yq] 26));have ka:=(Blk.new w 26 #[.slice xA xn xc,.slice xB xm xd,.slice xC xp xq]).next (zAE (w.alloc (.cells #[.slice xA xn xc,.slice xB xm xd,.slice xC xp xq] 26)) (.cells #[.slice yA yn yc,.slice yB ym yd,.slice yC yp yq] 26));have kb:Blk ((w.alloc (.cells #[.slice xA xn xc,.slice xB xm xd,.slice xC xp xq] 26)).alloc (.cells #[.slice yA yn yc,.slice yB ym yd,.slice yC yp yq] 26)) (w.heap.size+1) 26 #[.slice yA yn yc,.slice yB ym yd,.slice yC yp yq]:=Blk.newAt _ _ _ (by simp);go_enter Tryz.func105,Tryz.ntmps105
 go_wp2_with fail
 generalize ((w.alloc (.cells #[.slice xA xn xc,.slice xB xm xd,.slice xC xp xq] 26)).alloc (.cells #[.slice yA yn yc,.slice yB ym yd,.slice yC yp yq] 26))=W0 at *;refine (H1.out _ hb0).mono ?_;rintro e w1 ⟨rfl,hb1x⟩
 replace hb0:=zAA hb0 hb1x;replace ka:=ka.next hb1x;replace kb:=kb.next hb1x;clear hb1x;cases hv1:b1
 ·rw [hv1] at HV
  clear hv1;go_wp2_with fail
  go_ret;exact ⟨by rw [HV.out];rfl,hb0⟩
 rw [hv1] at HV;clear hv1;obtain ⟨kaq0,kaq1,kaq2⟩:=ka.cells3;obtain ⟨kbq0,kbq1,kbq2⟩:=kb.cells3;go_wp2_with fail
 refine (H2.out _ hb0).mono ?_;rintro e w2 ⟨rfl,hb2x⟩
 clear kaq0 kaq1 kaq2 kbq0 kbq1 kbq2;replace hb0:=zAA hb0 hb2x;replace ka:=ka.next hb2x;replace kb:=kb.next hb2x;clear hb2x;cases hv1:b2
 ·rw [hv1] at HV
  clear hv1;go_wp2_with fail
  go_ret;exact ⟨by rw [HV.out];rfl,hb0⟩
 rw [hv1] at HV;clear hv1;obtain ⟨kaq0,kaq1,kaq2⟩:=ka.cells3;obtain ⟨kbq0,kbq1,kbq2⟩:=kb.cells3;go_wp2_with fail
 refine (H3.out _ hb0).mono ?_;rintro e w3 ⟨rfl,hb3x⟩
 clear kaq0 kaq1 kaq2 kbq0 kbq1 kbq2;replace hb0:=zAA hb0 hb3x;replace ka:=ka.next hb3x;replace kb:=kb.next hb3x;clear hb3x;go_wp2_with fail
 go_ret;exact ⟨by rw [HV.out];rfl,hb0⟩
theorem zMg (A B:Option Addr) (n c m d:Nat) (l l':List Iv) (w:World) (h:Sl 7 RI w A n c l) (h':Sl 7 RI w B m d l') (hx:∀x∈l,BdI x) (hy:∀x∈l',BdI x):Calls Tryz.prog 125 #[.slice A n c,.slice B m d] w (zBW (zEO l && zEO l' && decide (l.length=l'.length)) w):=by
 have HV:Hid ((zEO l && zEO l' && decide (l.length=l'.length))=(zEO l && zEO l' && decide (n=m))):=by unfold Hid;rw [h.len,h'.len]
 have H1:=Zh (fun W hb=>zDh A n c l W (h.next zAX hb) hx);have H2:=Zh (fun W hb=>zDh B m d l' W (h'.next zAX hb) hy);have m1:=h.cap;have m2:=h.max;have m3:=h'.cap;have m4:=h'.max;clear h h' hx hy;have hb0:=Yp w.heap.size w;obtain ⟨b1,h1⟩:∃b1,zEO l=b1:=⟨_,rfl⟩;obtain ⟨b2,h2⟩:∃b2,zEO l' = b2:=⟨_,rfl⟩;have HV2:Hid ((zEO l && zEO l' && decide (l.length=l'.length))=(b1 && b2 && decide (n=m))):=by unfold Hid;rw [HV.out,h1,h2]
 rw [h1] at H1;rw [h2] at H2;clear HV h1 h2;go_enter Tryz.func125,Tryz.ntmps125
 go_wp2_with fail
 refine (H1.out _ hb0).mono ?_;rintro e w1 ⟨rfl,hb1x⟩
 replace hb0:=zAA hb0 hb1x;clear hb1x;cases hv1:b1
 ·rw [hv1] at HV2
  clear hv1;go_wp2_with fail
  go_ret;exact ⟨by rw [HV2.out];rfl,hb0⟩
 rw [hv1] at HV2;clear hv1;go_wp2_with fail
 refine (H2.out _ hb0).mono ?_;rintro e w2 ⟨rfl,hb2x⟩
 replace hb0:=zAA hb0 hb2x;clear hb2x;cases hv1:b2
 ·rw [hv1] at HV2
  clear hv1;go_wp2_with fail
  go_ret;exact ⟨by rw [HV2.out];rfl,hb0⟩
 rw [hv1] at HV2;clear hv1;by_cases hn:n=m
 ·have hn2:((n:Int) == (m:Int))=true:=by rw [hn];simp
  rw [Yf hn] at HV2;clear hn;go_wp2_with fail
  go_ret;exact ⟨by rw [HV2.out];rfl,hb0⟩
 ·have hn2:((n:Int) == (m:Int))=false:=by rw [Xh];omega
  rw [Ye hn] at HV2;clear hn;go_wp2_with fail
  go_ret;exact ⟨by rw [HV2.out];rfl,hb0⟩
theorem zJU (A B:Option Addr) (n c m d:Nat) (l l':List Iv) (w:World) (h:Sl 7 RI w A n c l) (h':Sl 7 RI w B m d l') (hx:∀x∈l,BdI x) (hy:∀x∈l',BdI x):Calls Tryz.prog 108 #[.slice A n c,.slice B m d] w (zBW (bxE l l') w):=by
 have HV:Hid (bxE l l' = ((zEO l && zEO l' && decide (l.length=l'.length)) && eqF ivE l l')):=rfl;have H1:=Zh (fun W hb=>zMg A B n c m d l l' W (h.next zAX hb) (h'.next zAX hb) hx hy);have H2:=Zh (fun W hb=>zFw A B n c m d l l' W (h.next zAX hb) (h'.next zAX hb) hx hy);clear h h' hx hy;have hb0:=Yp w.heap.size w;generalize (zEO l && zEO l' && decide (l.length=l'.length))=b1 at *;generalize eqF ivE l l' = b2 at *;go_enter Tryz.func108,Tryz.ntmps108
 go_wp2_with fail
 refine (H1.out _ hb0).mono ?_;rintro e w1 ⟨rfl,hb1x⟩
 replace hb0:=zAA hb0 hb1x;clear hb1x;cases hv1:b1
 ·rw [hv1] at HV
  clear hv1;go_wp2_with fail
  go_ret;exact ⟨by rw [HV.out];rfl,hb0⟩
 rw [hv1] at HV;clear hv1;go_wp2_with fail
 refine (H2.out _ hb0).mono ?_;rintro e w2 ⟨rfl,hb2x⟩
 replace hb0:=zAA hb0 hb2x;clear hb2x;go_wp2_with fail
 go_ret;exact ⟨by rw [HV.out];rfl,hb0⟩
theorem zHX (vs us:List Value) (x y:Lk) (w:World) (h:RL w vs x) (h':RL w us y) (hx:BdL x) (hy:BdL y):Calls Tryz.prog 107 (#[.agg vs.toArray,.agg us.toArray]++#[]) w (zBW (lkE x y) w):=by
 rw [Array.append_empty];obtain ⟨xH,xhs,xhc,xT,xtn,xtc,xA,xn,xc,xB,xm,xd,xC,xp,xq,xV,xvn,xvc,rfl,hx1,hx2,hx3,hx4,hx5,hx6⟩:=h;obtain ⟨⟨xhn,xhl,xhe⟩,xtu,xfe,xv⟩:=x;dsimp only at hx1 hx2 hx3 hx4 hx5 hx6 ⊢;obtain ⟨yH,yhs,yhc,yT,ytn,ytc,yA,yn,yc,yB,ym,yd,yC,yp,yq,yV,yvn,yvc,rfl,hy1,hy2,hy3,hy4,hy5,hy6⟩:=h';obtain ⟨⟨yhn,yhl,yhe⟩,ytu,yfe,yv⟩:=y;dsimp only at hy1 hy2 hy3 hy4 hy5 hy6 ⊢;have HV:Hid (lkE ⟨⟨xhn,xhl,xhe⟩,xtu,xfe,xv⟩ ⟨⟨yhn,yhl,yhe⟩,ytu,yfe,yv⟩=(decide (zCH ⟨xhn,xhl,xhe⟩ ⟨yhn,yhl,yhe⟩=0) && bxE xtu ytu && enF xfe yfe && enR xv yv)):=rfl;have rx1:RD w [.bool xhn,.slice xH xhs xhc,.int .i64 xhe] ⟨xhn,xhl,xhe⟩:=⟨xH,xhs,xhc,rfl,hx1⟩;have rx2:RF w [.slice xA xn xc,.slice xB xm xd,.slice xC xp xq] xfe:=⟨xA,xn,xc,xB,xm,xd,xC,xp,xq,rfl,hx3,hx4,hx5⟩;have ry1:RD w [.bool yhn,.slice yH yhs yhc,.int .i64 yhe] ⟨yhn,yhl,yhe⟩:=⟨yH,yhs,yhc,rfl,hy1⟩;have ry2:RF w [.slice yA yn yc,.slice yB ym yd,.slice yC yp yq] yfe:=⟨yA,yn,yc,yB,ym,yd,yC,yp,yq,rfl,hy3,hy4,hy5⟩;have H1:=Zh (fun W (hb:Below w.heap.size w W)=>zIW _ _ _ _ W (zAQ w W _ _ rx1 hb) (zAQ w W _ _ ry1 hb) hx.h hy.h);have H2:=Zh (fun W (hb:Below w.heap.size w W)=>zJU xT yT xtn xtc ytn ytc xtu ytu W (hx2.next zAX hb) (hy2.next zAX hb) hx.t hy.t);have H3:=Zh (fun W (hb:Below w.heap.size w W)=>zFs _ _ xfe yfe W (zBs w W _ _ rx2 hb) (zBs w W _ _ ry2 hb) hx.e hy.e);have H4:=Zh (fun W (hb:Below w.heap.size w W)=>zHt xV yV xvn xvc yvn yvc xv yv W (hx6.next zAh hb) (hy6.next zAh hb) hx.v hy.v);clear hx1 hx2 hx3 hx4 hx5 hx6 hy1 hy2 hy3 hy4 hy5 hy6 rx1 rx2 ry1 ry2 hx hy;generalize zCH ⟨xhn,xhl,xhe⟩ ⟨yhn,yhl,yhe⟩=r at *;generalize bxE xtu ytu=b2 at *;generalize enF xfe yfe=b3 at *;generalize enR xv yv=b4 at *;have hb0:=zAA (zAE w (.cells #[.bool xhn,.slice xH xhs xhc,.int .i64 xhe,.slice xT xtn xtc,.slice xA xn xc,.slice xB xm xd,.slice xC xp xq,.slice xV xvn xvc] 86)) (zAE (w.alloc (.cells #[.bool xhn,.slice xH xhs xhc,.int .i64 xhe,.slice xT xtn xtc,.slice xA xn xc,.slice xB xm xd,.slice xC xp xq,.slice xV xvn xvc] 86)) (.cells #[.bool yhn,.slice yH yhs yhc,.int .i64 yhe,.slice yT ytn ytc,.slice yA yn yc,.slice yB ym yd,.slice yC yp yq,.slice yV yvn yvc] 86));have ka:=(Blk.new w 86 #[.bool xhn,.slice xH xhs xhc,.int .i64 xhe,.slice xT xtn xtc,.slice xA xn xc,.slice xB xm xd,.slice xC xp xq,.slice xV xvn xvc]).next (zAE (w.alloc (.cells #[.bool xhn,.slice xH xhs xhc,.int .i64 xhe,.slice xT xtn xtc,.slice xA xn xc,.slice xB xm xd,.slice xC xp xq,.slice xV xvn xvc] 86)) (.cells #[.bool yhn,.slice yH yhs yhc,.int .i64 yhe,.slice yT ytn ytc,.slice yA yn yc,.slice yB ym yd,.slice yC yp yq,.slice yV yvn yvc] 86));have kb:Blk ((w.alloc (.cells #[.bool xhn,.slice xH xhs xhc,.int .i64 xhe,.slice xT xtn xtc,.slice xA xn xc,.slice xB xm xd,.slice xC xp xq,.slice xV xvn xvc] 86)).alloc (.cells #[.bool yhn,.slice yH yhs yhc,.int .i64 yhe,.slice yT ytn ytc,.slice yA yn yc,.slice yB ym yd,.slice yC yp yq,.slice yV yvn yvc] 86)) (w.heap.size+1) 86 #[.bool yhn,.slice yH yhs yhc,.int .i64 yhe,.slice yT ytn ytc,.slice yA yn yc,.slice yB ym yd,.slice yC yp yq,.slice yV yvn yvc]:=Blk.newAt _ _ _ (by simp);go_enter Tryz.func107,Tryz.ntmps107
 go_wp2_with fail
 generalize ((w.alloc (.cells #[.bool xhn,.slice xH xhs xhc,.int .i64 xhe,.slice xT xtn xtc,.slice xA xn xc,.slice xB xm xd,.slice xC xp xq,.slice xV xvn xvc] 86)).alloc (.cells #[.bool yhn,.slice yH yhs yhc,.int .i64 yhe,.slice yT ytn ytc,.slice yA yn yc,.slice yB ym yd,.slice yC yp yq,.slice yV yvn yvc] 86))=W0 at *;refine (H1.out _ hb0).mono ?_;rintro e w1 ⟨rfl,hb1x⟩
 replace hb0:=zAA hb0 hb1x;replace ka:=ka.next hb1x;replace kb:=kb.next hb1x;clear hb1x;by_cases hr:r=0
 rotate_left
 ·have hr2:(r == 0)=false:=by rw [Xh];exact hr
  rw [Ye hr] at HV;go_wp2_with fail
  go_ret;exact ⟨by rw [HV.out];rfl,hb0⟩
 rw [Yf hr] at HV;have hr2:(r == 0)=true:=by rw [hr];rfl
 clear hr;obtain ⟨kaq0,kaq1,kaq2,kaq3,kaq4,kaq5,kaq6,kaq7⟩:=ka.cells8;obtain ⟨kbq0,kbq1,kbq2,kbq3,kbq4,kbq5,kbq6,kbq7⟩:=kb.cells8;go_wp2_with fail
 refine (H2.out _ hb0).mono ?_;rintro e w2 ⟨rfl,hb2x⟩
 clear kaq0 kaq1 kaq2 kaq3 kaq4 kaq5 kaq6 kaq7 kbq0 kbq1 kbq2 kbq3 kbq4 kbq5 kbq6 kbq7;replace hb0:=zAA hb0 hb2x;replace ka:=ka.next hb2x;replace kb:=kb.next hb2x;clear hb2x;cases hv1:b2
 ·rw [hv1] at HV
  clear hv1;go_wp2_with fail
  go_ret;exact ⟨by rw [HV.out];rfl,hb0⟩
 rw [hv1] at HV;clear hv1;obtain ⟨kaq0,kaq1,kaq2,kaq3,kaq4,kaq5,kaq6,kaq7⟩:=ka.cells8;obtain ⟨kbq0,kbq1,kbq2,kbq3,kbq4,kbq5,kbq6,kbq7⟩:=kb.cells8;go_wp2_with fail
 refine (H3.out _ hb0).mono ?_;rintro e w3 ⟨rfl,hb3x⟩
 clear kaq0 kaq1 kaq2 kaq3 kaq4 kaq5 kaq6 kaq7 kbq0 kbq1 kbq2 kbq3 kbq4 kbq5 kbq6 kbq7;replace hb0:=zAA hb0 hb3x;replace ka:=ka.next hb3x;replace kb:=kb.next hb3x;clear hb3x;cases hv1:b3
 ·rw [hv1] at HV
  clear hv1;go_wp2_with fail
  go_ret;exact ⟨by rw [HV.out];rfl,hb0⟩
 rw [hv1] at HV;clear hv1;obtain ⟨kaq0,kaq1,kaq2,kaq3,kaq4,kaq5,kaq6,kaq7⟩:=ka.cells8;obtain ⟨kbq0,kbq1,kbq2,kbq3,kbq4,kbq5,kbq6,kbq7⟩:=kb.cells8;go_wp2_with fail
 refine (H4.out _ hb0).mono ?_;rintro e w4 ⟨rfl,hb4x⟩
 clear kaq0 kaq1 kaq2 kaq3 kaq4 kaq5 kaq6 kaq7 kbq0 kbq1 kbq2 kbq3 kbq4 kbq5 kbq6 kbq7;replace hb0:=zAA hb0 hb4x;replace ka:=ka.next hb4x;replace kb:=kb.next hb4x;clear hb4x;go_wp2_with fail
 go_ret;exact ⟨by rw [HV.out];rfl,hb0⟩
theorem zIV (vs us:List Value) (x y:Ct) (w:World) (h:RC w vs x) (h':RC w us y) (hx:BdC x) (hy:BdC y) (ht:zBx w):Calls Tryz.prog 51 #[.agg vs.toArray,.agg us.toArray] w (zBW (ctE x y) w):=by
 obtain ⟨xA,xn,xc,xB,xm,xd,xC,xp,xq,xL,xln,xlc,rfl,hx1,hx2,hx3,hx4⟩:=h;obtain ⟨xpr,xod,xst,xls⟩:=x;dsimp only at hx1 hx2 hx3 hx4 ⊢;obtain ⟨yA,yn,yc,yB,ym,yd,yC,yp,yq,yL,yln,ylc,rfl,hy1,hy2,hy3,hy4⟩:=h';obtain ⟨ypr,yod,yst,yls⟩:=y;dsimp only at hy1 hy2 hy3 hy4 ⊢;have HV:Hid (ctE ⟨xpr,xod,xst,xls⟩ ⟨ypr,yod,yst,yls⟩=(ctV ⟨xpr,xod,xst,xls⟩ && ctV ⟨ypr,yod,yst,yls⟩ && decide (xpr=ypr) && decide (xod=yod) && enF xst yst && eqF lkE xls yls)):=rfl;have rx1:RC w [.int .i64 xpr,.int .i64 xod,.slice xA xn xc,.slice xB xm xd,.slice xC xp xq,.slice xL xln xlc] ⟨xpr,xod,xst,xls⟩:=⟨xA,xn,xc,xB,xm,xd,xC,xp,xq,xL,xln,xlc,rfl,hx1,hx2,hx3,hx4⟩;have rx2:RF w [.slice xA xn xc,.slice xB xm xd,.slice xC xp xq] xst:=⟨xA,xn,xc,xB,xm,xd,xC,xp,xq,rfl,hx1,hx2,hx3⟩;have Hx:=Zh (fun W (hb:Below w.heap.size w W)=>zBe _ ⟨xpr,xod,xst,xls⟩ W (zAm w W _ _ rx1 hb) hx (ht.next hb));have ry1:RC w [.int .i64 ypr,.int .i64 yod,.slice yA yn yc,.slice yB ym yd,.slice yC yp yq,.slice yL yln ylc] ⟨ypr,yod,yst,yls⟩:=⟨yA,yn,yc,yB,ym,yd,yC,yp,yq,yL,yln,ylc,rfl,hy1,hy2,hy3,hy4⟩;have ry2:RF w [.slice yA yn yc,.slice yB ym yd,.slice yC yp yq] yst:=⟨yA,yn,yc,yB,ym,yd,yC,yp,yq,rfl,hy1,hy2,hy3⟩;have Hy:=Zh (fun W (hb:Below w.heap.size w W)=>zBe _ ⟨ypr,yod,yst,yls⟩ W (zAm w W _ _ ry1 hb) hy (ht.next hb));have H3:=Zh (fun W (hb:Below w.heap.size w W)=>zFs _ _ xst yst W (zBs w W _ _ rx2 hb) (zBs w W _ _ ry2 hb) hx.s hy.s);have H4:=Zh (fun W (hb:Below w.heap.size w W)=>zKu lkE 107 #[] xL yL xln xlc yln ylc xls yls W (hx4.next zBt hb) (hy4.next zBt hb) (zCQ Tryz.func107 (by kernel_rfl) rfl) (fun V vs us x y _ hm hm' hr hr'=>zHX vs us x y V hr hr' (hx.l x hm) (hy.l y hm')));clear hx1 hx2 hx3 hx4 hy1 hy2 hy3 hy4 rx1 rx2 ry1 ry2 hx hy ht;generalize ctV ⟨xpr,xod,xst,xls⟩=b1 at *;generalize ctV ⟨ypr,yod,yst,yls⟩=b2 at *;generalize enF xst yst=b3 at *;generalize eqF lkE xls yls=b4 at *;have hb0:=zAA (zAE w (.cells #[.int .i64 xpr,.int .i64 xod,.slice xA xn xc,.slice xB xm xd,.slice xC xp xq,.slice xL xln xlc] 29)) (zAE (w.alloc (.cells #[.int .i64 xpr,.int .i64 xod,.slice xA xn xc,.slice xB xm xd,.slice xC xp xq,.slice xL xln xlc] 29)) (.cells #[.int .i64 ypr,.int .i64 yod,.slice yA yn yc,.slice yB ym yd,.slice yC yp yq,.slice yL yln ylc] 29));have ka:=(Blk.new w 29 #[.int .i64 xpr,.int .i64 xod,.slice xA xn xc,.slice xB xm xd,.slice xC xp xq,.slice xL xln xlc]).next (zAE (w.alloc (.cells #[.int .i64 xpr,.int .i64 xod,.slice xA xn xc,.slice xB xm xd,.slice xC xp xq,.slice xL xln xlc] 29)) (.cells #[.int .i64 ypr,.int .i64 yod,.slice yA yn yc,.slice yB ym yd,.slice yC yp yq,.slice yL yln ylc] 29));have kb:Blk ((w.alloc (.cells #[.int .i64 xpr,.int .i64 xod,.slice xA xn xc,.slice xB xm xd,.slice xC xp xq,.slice xL xln xlc] 29)).alloc (.cells #[.int .i64 ypr,.int .i64 yod,.slice yA yn yc,.slice yB ym yd,.slice yC yp yq,.slice yL yln ylc] 29)) (w.heap.size+1) 29 #[.int .i64 ypr,.int .i64 yod,.slice yA yn yc,.slice yB ym yd,.slice yC yp yq,.slice yL yln ylc]:=Blk.newAt _ _ _ (by simp);go_enter Tryz.func51,Tryz.ntmps51
 go_wp2_with fail
 generalize ((w.alloc (.cells #[.int .i64 xpr,.int .i64 xod,.slice xA xn xc,.slice xB xm xd,.slice xC xp xq,.slice xL xln xlc] 29)).alloc (.cells #[.int .i64 ypr,.int .i64 yod,.slice yA yn yc,.slice yB ym yd,.slice yC yp yq,.slice yL yln ylc] 29))=W0 at *;refine (Hx.out _ hb0).mono ?_;rintro e w1 ⟨rfl,hb1x⟩
 replace hb0:=zAA hb0 hb1x;replace ka:=ka.next hb1x;replace kb:=kb.next hb1x;clear hb1x;cases hv1:b1
 ·rw [hv1] at HV
  clear hv1;go_wp2_with fail
  go_ret;exact ⟨by rw [HV.out];rfl,hb0⟩
 rw [hv1] at HV;clear hv1;obtain ⟨kaq0,kaq1,kaq2,kaq3,kaq4,kaq5⟩:=ka.cells6;obtain ⟨kbq0,kbq1,kbq2,kbq3,kbq4,kbq5⟩:=kb.cells6;go_wp2_with fail
 refine (Hy.out _ hb0).mono ?_;rintro e w2 ⟨rfl,hb2x⟩
 clear kaq0 kaq1 kaq2 kaq3 kaq4 kaq5 kbq0 kbq1 kbq2 kbq3 kbq4 kbq5;replace hb0:=zAA hb0 hb2x;replace ka:=ka.next hb2x;replace kb:=kb.next hb2x;clear hb2x;cases hv1:b2
 ·rw [hv1] at HV
  clear hv1;go_wp2_with fail
  go_ret;exact ⟨by rw [HV.out];rfl,hb0⟩
 rw [hv1] at HV;clear hv1;by_cases hp:xpr=ypr
 rotate_left
 ·have hp2:(xpr == ypr)=false:=by rw [Xh];exact hp
  rw [Ye hp] at HV;obtain ⟨kaq0,kaq1,kaq2,kaq3,kaq4,kaq5⟩:=ka.cells6;obtain ⟨kbq0,kbq1,kbq2,kbq3,kbq4,kbq5⟩:=kb.cells6;go_wp2_with fail
  go_ret;exact ⟨by rw [HV.out];rfl,hb0⟩
 rw [Yf hp] at HV;have hp2:(xpr == ypr)=true:=by rw [hp];simp
 clear hp;by_cases ho:xod=yod
 rotate_left
 ·have ho2:(xod == yod)=false:=by rw [Xh];exact ho
  rw [Ye ho] at HV;obtain ⟨kaq0,kaq1,kaq2,kaq3,kaq4,kaq5⟩:=ka.cells6;obtain ⟨kbq0,kbq1,kbq2,kbq3,kbq4,kbq5⟩:=kb.cells6;go_wp2_with fail
  go_ret;exact ⟨by rw [HV.out];rfl,hb0⟩
 rw [Yf ho] at HV;have ho2:(xod == yod)=true:=by rw [ho];simp
 clear ho;obtain ⟨kaq0,kaq1,kaq2,kaq3,kaq4,kaq5⟩:=ka.cells6;obtain ⟨kbq0,kbq1,kbq2,kbq3,kbq4,kbq5⟩:=kb.cells6;go_wp2_with fail
 refine (H3.out _ hb0).mono ?_;rintro e w3 ⟨rfl,hb3x⟩
 clear kaq0 kaq1 kaq2 kaq3 kaq4 kaq5 kbq0 kbq1 kbq2 kbq3 kbq4 kbq5;replace hb0:=zAA hb0 hb3x;replace ka:=ka.next hb3x;replace kb:=kb.next hb3x;clear hb3x;cases hv1:b3
 ·rw [hv1] at HV
  clear hv1;go_wp2_with fail
  go_ret;exact ⟨by rw [HV.out];rfl,hb0⟩
 rw [hv1] at HV;clear hv1;obtain ⟨kaq0,kaq1,kaq2,kaq3,kaq4,kaq5⟩:=ka.cells6;obtain ⟨kbq0,kbq1,kbq2,kbq3,kbq4,kbq5⟩:=kb.cells6;go_wp2_with fail
 refine (H4.out _ hb0).mono ?_;rintro e w4 ⟨rfl,hb4x⟩
 clear kaq0 kaq1 kaq2 kaq3 kaq4 kaq5 kbq0 kbq1 kbq2 kbq3 kbq4 kbq5;replace hb0:=zAA hb0 hb4x;replace ka:=ka.next hb4x;replace kb:=kb.next hb4x;clear hb4x;go_wp2_with fail
 go_ret;exact ⟨by rw [HV.out];rfl,hb0⟩
def sN (l l':List Dy):Bool:=eqF eqD l l'
def sI (x y:Iv):Bool:=(x.all == y.all) && eqD x.lo y.lo && eqD x.hi y.hi
def sB (l l':List Iv):Bool:=eqF sI l l'
def sM (m m':List (List Dy)):Bool:=eqF sN m m'
def sF (f g:Fr):Bool:=sN f.c g.c && sM f.a g.a && sB f.r g.r
def sL (x y:Lk):Bool:=eqD x.h y.h && sB x.tube y.tube && sF x.e y.e && sM x.v y.v
def sC (x y:Ct):Bool:=decide (x.prec=y.prec) && decide (x.order=y.order) && sF x.start y.start && eqF sL x.links y.links
def LmI (x:Iv):Prop:=zAV x.lo.l/\zAV x.hi.l
structure LmF (f:Fr):Prop where
 c:∀d∈f.c,zAV d.l
 a:∀l∈f.a,∀d∈l,zAV d.l
 r:∀x∈f.r,LmI x
structure LmL (x:Lk):Prop where
 h:zAV x.h.l
 t:∀y∈x.tube,LmI y
 e:LmF x.e
 v:∀l∈x.v,∀d∈l,zAV d.l
structure LmC (x:Ct):Prop where
 s:LmF x.start
 l:∀y∈x.links,LmL y
theorem zHH {W:World}{A:Option Addr}{n c:Nat}{l:List Iv}(h:Sl 7 RI W A n c l):∀d∈l,LmI d:=by
 intro d hd;obtain ⟨j,hj⟩:=List.getElem?_of_mem hd;have hlt:j<n:=by have:=(Yb.1 hj).1;have:=h.len;omega
 obtain ⟨b,off,x,vs,_,_,hx,_,⟨A1,n1,c1,A2,n2,c2,_,hs,hs'⟩,_⟩:=h.get hlt;rw [hj] at hx;injection hx with hx
 rw [hx];exact ⟨hs.lt,hs'.lt⟩
theorem zQo {W:World}{vs:List Value}{x:Lk}(h:RL W vs x):LmL x:=by
 obtain ⟨H,hn,hc,T,tn,tc,A,n,c,B,m,d,C,p,q,V,vn,vc,_,h1,h2,h3,h4,h5,h6⟩:=h;exact ⟨h1.lt,zHH h2,⟨zI4 h3,zFI h4,zHH h5⟩,zFI h6⟩
theorem zIz {W:World}{vs:List Value}{x:Ct}(h:RC W vs x):LmC x:=by
 obtain ⟨A,n,c,B,m,d,C,p,q,L,ln,lc,_,h1,h2,h3,h4⟩:=h;refine ⟨⟨zI4 h1,zFI h2,zHH h3⟩,fun y hy=>?_⟩;obtain ⟨j,hj⟩:=List.getElem?_of_mem hy;have hlt:j<ln:=by have:=(Yb.1 hj).1;have:=h4.len;omega
 obtain ⟨b,off,x,vs,_,_,hx,_,hR,_⟩:=h4.get hlt;rw [hj] at hx;injection hx with hx
 rw [hx];exact zQo hR
theorem zDk {α:Type}{p q:α->α->Bool}:∀ (xs ys:List α),(∀x∈xs,∀y∈ys,p x y=q x y)->eqF p xs ys=eqF q xs ys:=by
 intro xs
 induction xs with
 | nil=>intro ys _;cases ys <;> rfl
 | cons x xs ih=>
  intro ys h;cases ys with
  | nil=>rfl
  | cons y ys=>
   simp only [eqF];rw [h x (by simp) y (by simp),ih ys (fun a ha b hb=>h a (by simp [ha]) b (by simp [hb]))]
theorem zGD {α:Type}{p:α->α->Bool}:∀ (xs:List α),(∀x∈xs,p x x=true)->eqF p xs xs=true:=by
 intro xs
 induction xs with
 | nil=>intro _;rfl
 | cons x xs ih=>intro h;simp only [eqF];rw [h x (by simp),ih (fun a ha=>h a (by simp [ha]))];rfl
theorem zP6 {α:Type}{p:α->α->Bool}(xs ys:List α):(decide (xs.length=ys.length) && eqF p xs ys)=eqF p xs ys:=by
 by_cases h:xs.length=ys.length
 ·rw [Yf h];rfl
 ·rw [zGk p xs ys h];simp
theorem zRN {d d':Dy}(h:eqD d d' = true):d=d':=by
 unfold eqD at h;have h:=of_decide_eq_true h;obtain ⟨a,b,c⟩:=d;obtain ⟨a',b',c'⟩:=d';simp only at h;obtain ⟨rfl,rfl,rfl⟩:=h;rfl
theorem sI_id {x y:Iv}(h:sI x y=true):x=y:=by
 unfold sI at h;simp only [Yi,beq_iff_eq] at h;obtain ⟨⟨h1,h2⟩,h3⟩:=h;obtain ⟨a,b,c⟩:=x;obtain ⟨a',b',c'⟩:=y;simp only at h1 h2 h3;rw [zRN h2,zRN h3,h1]
theorem zO1 (l:List Dy):sN l l=true:=zGD l (fun x _=>zGC x)
theorem zTE (x:Iv):sI x x=true:=by
 unfold sI;obtain ⟨⟨a,b,c⟩,⟨a',b',c'⟩,al⟩:=x;simp only [];rw [zGC,zGC];simp
theorem zO0 (l:List (List Dy)):sM l l=true:=zGD l (fun x _=>zO1 x)
theorem zOy (l:List Iv):sB l l=true:=zGD l (fun x _=>zTE x)
theorem zOz (f:Fr):sF f f=true:=by unfold sF;rw [zO1,zO0,zOy];rfl
theorem zTF (x:Lk):sL x x=true:=by
 unfold sL;obtain ⟨⟨a,b,c⟩,t,e,v⟩:=x;simp only [];rw [zGC,zOy,zOz,zO0];rfl
theorem zTD (x:Ct):sC x x=true:=by
 unfold sC;rw [zOz,zGD x.links (fun y _=>zTF y)];simp
theorem zTz {d d':Dy}(h:zAV d.l) (h':zAV d'.l) (hv:vld d=true) (hv':vld d' = true):cz d d' = eqD d d':=by
 unfold cz;rw [<- zJX h h' hv hv'];rfl
theorem zRU {x y:Iv}(h:LmI x) (h':LmI y) (hv:ivV x=true) (hv':ivV y=true) (ha:x.all=false) (ha':y.all=false):ivE x y=sI x y:=by
 obtain ⟨v1,v2⟩:=zOF hv ha;obtain ⟨v3,v4⟩:=zOF hv' ha';unfold ivE ins sI;rw [hv,hv',ha,ha',<- zJX h.1 h'.1 v1 v3,<- zJX h.2 h'.2 v2 v4];have e1:=(zLd x.lo y.lo).1;have e2:=(zLd x.hi y.hi).1;rw [e1,e2];generalize zCH y.lo x.lo=a;generalize zCH y.hi x.hi=b;rw [Bool.eq_iff_iff];simp only [Bool.true_and,Bool.false_or,Bool.not_false,Yi,Xa,beq_iff_eq,beq_self_eq_true];omega
theorem zRL {l l':List Dy}(h:∀d∈l,zAV d.l) (h':∀d∈l',zAV d.l) (hv:∀d∈l,vld d=true) (hv':∀d∈l',vld d=true):enN l l' = sN l l':=
 zDk l l' (fun x hx y hy=>zTz (h x hx) (h' y hy) (hv x hx) (hv' y hy))
theorem zRM {l l':List (List Dy)}(h:∀a∈l,∀d∈a,zAV d.l) (h':∀a∈l',∀d∈a,zAV d.l) (hv:∀a∈l,∀d∈a,vld d=true) (hv':∀a∈l',∀d∈a,vld d=true):enR l l' = sM l l':=
 zDk l l' (fun x hx y hy=>zRL (h x hx) (h' y hy) (hv x hx) (hv' y hy))
theorem zDf {α:Type}{p:α->Bool}{l:List α}(h:(!l.any p)=true):∀x∈l,p x=false:=by
 rw [Bool.not_eq_true',List.any_eq_false] at h;intro x hx
 simpa using h x hx
theorem zDm {f:Fr}(h:frV f=true):(∀d∈f.c,vld d=true)/\(∀l∈f.a,∀d∈l,vld d=true)/\∀x∈f.r,ivV x=true/\x.all=false:=by
 have h2:=zN6 h;unfold frV at h;simp only [Yi] at h;refine ⟨fun d hd=>by simpa using zDf h.1.1.2 d hd,h2,fun x hx=>?_⟩;have:=zDf h.2 x hx;rw [Xc] at this;refine ⟨?_,this.1⟩;have h3:=this.2;unfold zCM at h3;simp only [Bool.not_eq_false',Yi] at h3;exact h3.1.1
theorem zB9 {l:List Iv}(h:zEO l=true):∀x∈l,ivV x=true/\x.all=false:=by
 unfold zEO at h;simp only [Yi] at h;intro x hx;have:=zDf h.2 x hx;rw [Xc] at this;exact ⟨by simpa using this.2,this.1⟩
theorem zLM {v:List (List Dy)}{N:Nat}(h:sqV v N=true):∀l∈v,∀d∈l,vld d=true:=by
 unfold sqV at h;simp only [Yi] at h;intro l hl d hd;have:=zDf h.2 l hl;rw [Xc] at this;have h2:=List.any_eq_false.1 this.2 d hd
 simpa using h2
theorem zRK {f g:Fr}(h:LmF f) (h':LmF g) (hv:frV f=true) (hv':frV g=true):enF f g=sF f g:=by
 obtain ⟨a1,a2,a3⟩:=zDm hv;obtain ⟨b1,b2,b3⟩:=zDm hv';unfold enF sF;rw [zRL h.c h'.c a1 b1,zRM h.a h'.a a2 b2]
 congr 1
 exact zDk _ _ (fun x hx y hy=>zRU (h.r x hx) (h'.r y hy) (a3 x hx).1 (b3 y hy).1 (a3 x hx).2 (b3 y hy).2)
theorem zUM {x y:Lk}{N M:Nat}(h:LmL x) (h':LmL y) (hv:lkV N x=true) (hv':lkV M y=true):lkE x y=sL x y:=by
 unfold lkV at hv hv';simp only [Yi] at hv hv';obtain ⟨⟨⟨⟨⟨⟨v1,v2⟩,v3⟩,v4⟩,v5⟩,v6⟩,v7⟩:=hv;obtain ⟨⟨⟨⟨⟨⟨u1,u2⟩,u3⟩,u4⟩,u5⟩,u6⟩,u7⟩:=hv';unfold lkE sL bxE;rw [zTz h.h h'.h v1 u1,zRK h.e h'.e v5 u5,zRM h.v h'.v (zLM v7) (zLM u7),v3,u3,Bool.true_and,Bool.true_and,zP6];have:eqF ivE x.tube y.tube=sB x.tube y.tube:=zDk _ _ (fun a ha b hb=>zRU (h.t a ha) (h'.t b hb) (zB9 v3 a ha).1 (zB9 u3 b hb).1 (zB9 v3 a ha).2 (zB9 u3 b hb).2);rw [this]
theorem zBM {x:Ct}(h:ctV x=true):frV x.start=true/\idM x.start.a=true/\(∀l∈x.links,lkV x.start.c.length l=true)/\8<=x.prec/\x.prec<=256/\1<=x.order/\x.order<=15/\1<=x.start.c.length/\x.start.c.length<=4/\x.links.length<=1000:=by
 unfold ctV at h;simp only [Yi,Xa] at h;obtain ⟨⟨⟨⟨⟨⟨⟨⟨⟨v1,v2⟩,v3⟩,v4⟩,v5⟩,v6⟩,v7⟩,v8⟩,v9⟩,v10⟩:=h;exact ⟨v8,v9,fun l hl=>by simpa using zDf v10 l hl,v1,v2,v3,v4,v6,v7,v5⟩
theorem zTy {x y:Ct}(h:LmC x) (h':LmC y):ctE x y=(ctV x && ctV y && sC x y):=by
 unfold ctE sC;cases hv:ctV x
 ·rfl
 ·cases hv':ctV y
  ·rfl
  ·obtain ⟨a1,_,a3,_⟩:=zBM hv
   obtain ⟨b1,_,b3,_⟩:=zBM hv';rw [zRK h.s h'.s a1 b1,zDk x.links y.links (fun a ha b hb=>zUM (h.l a ha) (h'.l b hb) (a3 a ha) (b3 b hb))];simp only [Bool.true_and,Bool.and_assoc]
theorem zPz {x:Ct}(h:LmC x):ctE x x=ctV x:=by
 rw [zTy h h,zTD];simp
end Go.Proofs.YtchkfjgcbbbffaaGreatDoor
end
