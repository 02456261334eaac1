/- natural.Add, Sub, Shl, dyadic.shifted: what each call computes. -/
import Derived.Test.YtekajoifgdpmlaaGreatDoorB2
namespace Go.Proofs.YtekajoifgdpmlaaGreatDoor
open Go.RowKit Pl Go.Shelf

theorem nadd_any (A B : Option Addr) (n c m d : Nat) (l l' : List Nat) (w : World) (h : SL w A n c l) (h' : SL w B m d l') (hn : n ≤ 1000000) (hm : m ≤ 1000000) :
    Calls Tryz.prog 198 #[.slice A n c, .slice B m d] w (RetV (val l + val l') 1000001 w) := by
  by_cases hmn : m ≤ n
  · exact add_ge A B n c m d l l' w h h' hn hmn
  · have := add_lt' B A m d n c l' l w h' h hm (by omega)
    rw [Nat.add_comm (val l') (val l)] at this
    exact this

set_option maxHeartbeats 400000 in
theorem Add_ok (A B : Option Addr) (n c m d : Nat) (l l' : List Nat) (w : World) (h : SL w A n c l) (h' : SL w B m d l') (hn : n ≤ 256) (hm : m ≤ 256) (hs : (digs (val l + val l')).length ≤ 256) :
    Calls Tryz.prog 158 #[.slice A n c, .slice B m d] w (RetP (digs (val l + val l')) w) := by
  have hw := h.alloc (.cells #[.slice A n c, .slice B m d] 23)
  have hw' := h'.alloc (.cells #[.slice A n c, .slice B m d] 23)
  have hlb : decide (256 < n ∨ 256 < m) = false := by simp; omega
  have HLB := Lib.hid hlb
  clear hlb
  go_enter Tryz.func158, Tryz.ntmps158
  go_wp2_with fail
  refine (long_two _ A B n c m d _ (by simp) (by simp)).mono ?_
  rintro e w' ⟨rfl, rfl⟩
  rw [HLB.out]
  go_wp2_with fail
  refine (nadd_any A B n c m d l l' _ hw hw' (by omega) (by omega)).mono ?_
  rintro e w' ⟨A1, n1, c1, l1, rfl, hs1, hv1, _, hf1, hb1⟩
  have hb : Below w.heap.size w w' := bnext (ballo _ _) hb1
  have HV := Lib.hid hv1
  clear hv1
  have h256' : (digs (val l1)).length ≤ 256 := by rw [HV.out]; exact hs
  clear hs
  go_wp2_with fail
  refine (done_ok A1 n1 c1 l1 _ hs1 h256').mono ?_
  rintro e w2 ⟨rfl, hb2⟩
  go_wp2_with fail
  go_ret2
  have hl1 := digs_val_len l1 hs1.lt
  have hl2 := hs1.len
  rw [← HV.out]
  exact ⟨_, _, _, rfl, (hs1.trim.clip).below hb2, (hf1.mono (by simp)).less (by omega), bnext hb hb2⟩

set_option maxHeartbeats 400000 in
theorem Sub_ok (A B : Option Addr) (n c m d : Nat) (l l' : List Nat) (w : World) (h : SL w A n c l) (h' : SL w B m d l') (hn : n ≤ 256) (hm : m ≤ 256) (hle : val l' ≤ val l) :
    Calls Tryz.prog 160 #[.slice A n c, .slice B m d] w (RetP (digs (val l - val l')) w) := by
  have hw := h.alloc (.cells #[.slice A n c, .slice B m d] 23)
  have hw' := h'.alloc (.cells #[.slice A n c, .slice B m d] 23)
  have hlb : decide (256 < n ∨ 256 < m) = false := by simp; omega
  have HLB := Lib.hid hlb
  clear hlb
  have hcmp : ¬ cmpN (val l) (val l') < 0 := by
    unfold cmpN
    rw [if_neg (by omega)]
    split <;> omega
  generalize hz : cmpN (val l) (val l') = z at *
  have HZ := Lib.hid hz
  clear hz
  have hs : (digs (val l - val l')).length ≤ 256 := len256 h.lt (by rw [h.len]; exact hn) (by omega)
  go_enter Tryz.func160, Tryz.ntmps160
  go_wp2_with fail
  refine (long_two _ A B n c m d _ (by simp) (by simp)).mono ?_
  rintro e w' ⟨rfl, rfl⟩
  rw [HLB.out]
  go_wp2_with fail
  refine (ncmp_any A B n c m d l l' _ hw hw').mono ?_
  rintro e w' ⟨rfl, q, rfl⟩
  rw [HZ.out]
  go_wp2_with fail
  refine (sub_any A B n c m d l l' _ (hw.drewN q) (hw'.drewN q) (by omega) hle).mono ?_
  rintro e w' ⟨A1, n1, c1, l1, rfl, hs1, hv1, _, hf1, hb1⟩
  have hb : Below w.heap.size w w' := bnext (below_drewN (ballo _ _) q) hb1
  have HV := Lib.hid hv1
  clear hv1
  have h256' : (digs (val l1)).length ≤ 256 := by rw [HV.out]; exact hs
  clear hs
  go_wp2_with fail
  refine (done_ok A1 n1 c1 l1 _ hs1 h256').mono ?_
  rintro e w2 ⟨rfl, hb2⟩
  go_wp2_with fail
  go_ret2
  have hl1 := digs_val_len l1 hs1.lt
  have hl2 := hs1.len
  rw [← HV.out]
  exact ⟨_, _, _, rfl, (hs1.trim.clip).below hb2, (hf1.mono (by simp)).less (by omega), bnext hb hb2⟩

set_option maxHeartbeats 400000 in
theorem Shl_ok (A : Option Addr) (n c k : Nat) (l : List Nat) (w : World) (h : SL w A n c l) (hn : n ≤ 256) (hk : k ≤ 65536) (hs : (digs (val l * 2 ^ k)).length ≤ 256) :
    Calls Tryz.prog 197 #[.slice A n c, .int .i64 (k : Int)] w (RetP (digs (val l * 2 ^ k)) w) := by
  have hw := h.alloc (.cells #[.slice A n c] 23)
  have h256 : ¬ 256 < n := by omega
  go_enter Tryz.func197, Tryz.ntmps197
  go_wp2_with fail
  refine (long_one _ A n c _ (by simp)).mono ?_
  rintro e w' ⟨rfl, rfl⟩
  go_wp2_with fail
  refine (shl_any A n c k l _ hw (by omega) (by omega)).mono ?_
  rintro e w' ⟨A1, n1, c1, l1, rfl, hs1, hv1, _, hf1, hb1⟩
  have hb : Below w.heap.size w w' := bnext (ballo _ _) hb1
  have HV := Lib.hid hv1
  clear hv1
  have h256' : (digs (val l1)).length ≤ 256 := by rw [HV.out]; exact hs
  clear hs
  go_wp2_with fail
  refine (done_ok A1 n1 c1 l1 _ hs1 h256').mono ?_
  rintro e w2 ⟨rfl, hb2⟩
  go_wp2_with fail
  go_ret2
  have hl1 := digs_val_len l1 hs1.lt
  have hl2 := hs1.len
  rw [← HV.out]
  exact ⟨_, _, _, rfl, (hs1.trim.clip).below hb2, (hf1.mono (by simp)).less (by omega), bnext hb hb2⟩

set_option maxHeartbeats 400000 in
theorem shifted_ok (A : Option Addr) (n c k : Nat) (l : List Nat) (w : World) (h : SL w A n c l) (hn : n ≤ 256) (hk : k ≤ 65536) (hs : (digs (val l * 2 ^ k)).length ≤ 256) :
    Calls Tryz.prog 157 #[.slice A n c, .int .i64 (k : Int)] w (RetS (digs (val l * 2 ^ k)) w) := by
  go_enter Tryz.func157, Tryz.ntmps157
  go_wp2_with fail
  refine (Shl_ok A n c k l _ h hn hk hs).mono ?_
  rintro e w1 ⟨A1, n1, c1, rfl, hs1, hf1, hb1⟩
  go_wp2_with fail
  go_ret
  exact ⟨_, _, _, rfl, hs1, hf1, hb1⟩

end Go.Proofs.YtekajoifgdpmlaaGreatDoor
