/- Bundle 20: what the laws' walks stand on: I4, I6, I5. -/
import Derived.Defers
import Derived.Recover
import Derived.Laws.Tables
import Derived.Test.YtekajoifgdpmlaaGreatDoorZ11
import Derived.Test.YtekajoifgdpmlaaGreatDoorZ17
import Derived.Test.YtekajoifgdpmlaaGreatDoorZ18
import Derived.Test.YtekajoifgdpmlaaGreatDoorZ19
/-! I4 -/
namespace Go.Proofs.YtekajoifgdpmlaaGreatDoor
open Go.RowKit Pl Go.Shelf

theorem catch_idle (p q r : Addr) (w : World) :
    CallsD Tryz.prog 88 #[.pointer (some p), .pointer (some q), .pointer (some r)] .returning w fun e u' w' => e = .returned (.tuple #[]) ∧ u' = .returning ∧ w' = w := by
  refine callsD_of_wpS Tryz.func88 rfl fun c₀ cs hu => ?_
  apply wpS_seq
  apply wpS_region
  simp [wpOpsS, go_sem, recoverD, hu, Tryz.ntmps88, Exit.thenS]
  refine wpS_of_wp ?_
  rw [show (#[Value.pointer (some p), .pointer (some q), .pointer (some r)] ++ (((Array.replicate 19 undef).setIfInBounds 3 (Value.nilIface)).setIfInBounds 0 (Value.nilIface))) = #[Value.pointer (some p), .pointer (some q), .pointer (some r), .nilIface, undef, undef, .nilIface, undef, undef, undef, undef, undef, undef, undef, undef, undef, undef, undef, undef, undef, undef, undef] from by kernel_rfl]
  go_wp2_with fail
  cases c₀
  simp_all [bodyPostS, results, Tryz.results88]

set_option maxRecDepth 100000 in
set_option maxHeartbeats 2000000 in
theorem catch_wrong (B b2 b3 b4 : Nat) (k c x : Int) (older : List PanicEntry) (w : World) (a0 a1 a2 a3 a4 a5 a6 a7 a8 : Value) (h2 : Blk w b2 42 #[a0, a1, a2, a3, a4, a5]) (h3 : Blk w b3 48 #[a6, a7]) (h4 : Blk w b4 26 #[a8]) (n23 : b2 ≠ b3) (n24 : b2 ≠ b4) (n34 : b3 ≠ b4) (hB2 : B ≤ b2) (hB3 : B ≤ b3) (hB4 : B ≤ b4) :
    CallsD Tryz.prog 88 #[.pointer (some ⟨b2, 0, none⟩), .pointer (some ⟨b3, 0, none⟩), .pointer (some ⟨b4, 0, none⟩)] (.panicking ({ v := .iface 120 (.agg #[.int .i64 k, .int .i64 c, .int .i64 x]), recovered := false } :: older)) w fun e u' w' =>
      e = .returned (.tuple #[]) ∧ u' = .panicking ({ v := .iface 120 (.agg #[.int .i64 k, .int .i64 c, .int .i64 x]), recovered := true } :: older) ∧ Blk w' b2 42 #[.int .i64 0, .int .i64 0, .slice none 0 0, .slice none 0 0, .slice none 0 0, .slice none 0 0] ∧ Blk w' b3 48 #[.int .i64 k, .int .i64 c] ∧ Blk w' b4 26 #[.int .i64 x] ∧ Below B w w' := by
  have hta : ∀ w, (Instr.typeAssert (.iface 120 (.agg #[.int .i64 k, .int .i64 c, .int .i64 x])) 20 120 true).run Tryz.prog w = .ok (.tuple #[.agg #[.int .i64 k, .int .i64 c, .int .i64 x], .bool true]) w := fun _ => by kernel_rfl
  have hb2 := h2.lt
  have hb3 := h3.lt
  have hb4 := h4.lt
  have H2 := Lib.hid (h2.alloc (.cells #[.int .i64 k, .int .i64 c, .int .i64 x] 120))
  have H3 := Lib.hid (h3.alloc (.cells #[.int .i64 k, .int .i64 c, .int .i64 x] 120))
  have H4 := Lib.hid (h4.alloc (.cells #[.int .i64 k, .int .i64 c, .int .i64 x] 120))
  have HN := Lib.hid (Blk.new w 120 #[.int .i64 k, .int .i64 c, .int .i64 x])
  have HB := Lib.hid ((ballo w (.cells #[.int .i64 k, .int .i64 c, .int .i64 x] 120)).mono (show B ≤ w.heap.size by omega))
  clear h2 h3 h4
  refine callsD_of_wpS Tryz.func88 rfl fun c₀ cs hu => ?_
  apply wpS_seq
  apply wpS_region
  simp [wpOpsS, go_sem, recoverD, hu, Tryz.ntmps88, Exit.thenS]
  refine wpS_of_wp ?_
  rw [show (#[Value.pointer (some ⟨b2, 0, none⟩), .pointer (some ⟨b3, 0, none⟩), .pointer (some ⟨b4, 0, none⟩)] ++ (((Array.replicate 19 undef).setIfInBounds 3 (Value.iface 120 (.agg #[.int .i64 k, .int .i64 c, .int .i64 x]))).setIfInBounds 0 (Value.iface 120 (.agg #[.int .i64 k, .int .i64 c, .int .i64 x])))) = #[Value.pointer (some ⟨b2, 0, none⟩), .pointer (some ⟨b3, 0, none⟩), .pointer (some ⟨b4, 0, none⟩), .iface 120 (.agg #[.int .i64 k, .int .i64 c, .int .i64 x]), undef, undef, .iface 120 (.agg #[.int .i64 k, .int .i64 c, .int .i64 x]), undef, undef, undef, undef, undef, undef, undef, undef, undef, undef, undef, undef, undef, undef, undef] from by kernel_rfl]
  go_wp2_with fail
  generalize w.alloc (.cells #[.int .i64 k, .int .i64 c, .int .i64 x] 120) = V at *
  generalize w.heap.size = N at *
  refine wp_region_held_drew (S := fun W => W.cell? ⟨N, 0, none⟩ = some (.int .i64 k) ∧ W.cell? ⟨N, 1, none⟩ = some (.int .i64 c) ∧ W.cell? ⟨N, 2, none⟩ = some (.int .i64 x)) (by kernel_rfl) (by obtain ⟨y0, y1, y2⟩ := HN.out.cells3; exact ⟨y0, y1, y2⟩) (fun hH => ?_)
  refine wpAnyH_take (i := 0) (oi := ⟨_, _, _, _, _, _⟩) (v := ?_) rfl (by kernel_rfl) (by kernel_rfl) (by kernel_rfl) (fun _ _ _ h => h) (Or.inl ⟨by rfl, ?_⟩) hH ?_
  rotate_left
  · (intro w hSw; obtain ⟨p0, p1, p2⟩ := hSw; go_simp; try (with_reducible rfl))
  simp only [Act.put, List.setIfInBounds_toArray, List.set_cons_zero, List.set_cons_succ]
  refine wpAnyH_take (i := 1) (oi := ⟨_, _, _, _, _, _⟩) (v := ?_) rfl (by kernel_rfl) (by kernel_rfl) (by kernel_rfl) (fun _ _ _ h => h) (Or.inl ⟨by rfl, ?_⟩) hH ?_
  rotate_left
  · (intro w hSw; obtain ⟨p0, p1, p2⟩ := hSw; go_simp; try (with_reducible rfl))
  simp only [Act.put, List.setIfInBounds_toArray, List.set_cons_zero, List.set_cons_succ]
  refine wpAnyH_take (i := 2) (oi := ⟨_, _, _, _, _, _⟩) (v := ?_) rfl (by kernel_rfl) (by kernel_rfl) (by kernel_rfl) (fun _ _ _ h => h) (Or.inl ⟨by rfl, ?_⟩) hH ?_
  rotate_left
  · (intro w hSw; obtain ⟨p0, p1, p2⟩ := hSw; go_simp; try (with_reducible rfl))
  simp only [Act.put, List.setIfInBounds_toArray, List.set_cons_zero, List.set_cons_succ]
  refine wpAnyH_take (i := 3) (oi := ⟨_, _, _, _, _, _⟩) (v := ?_) rfl (by kernel_rfl) (by kernel_rfl) (by kernel_rfl) (fun _ _ _ h => h) (Or.inl ⟨by rfl, ?_⟩) hH ?_
  rotate_left
  · (intro w hSw; obtain ⟨p0, p1, p2⟩ := hSw; go_simp; try (with_reducible rfl))
  simp only [Act.put, List.setIfInBounds_toArray, List.set_cons_zero, List.set_cons_succ]
  refine wpAnyH_take (i := 4) (oi := ⟨_, _, _, _, _, _⟩) (v := ?_) rfl (by kernel_rfl) (by kernel_rfl) (by kernel_rfl) (fun _ _ _ h => h) (Or.inl ⟨by rfl, ?_⟩) hH ?_
  rotate_left
  · (intro w hSw; obtain ⟨p0, p1, p2⟩ := hSw; go_simp; try (with_reducible rfl))
  simp only [Act.put, List.setIfInBounds_toArray, List.set_cons_zero, List.set_cons_succ]
  replace H2 := Lib.hid H2.out.drew
  replace H3 := Lib.hid H3.out.drew
  replace H4 := Lib.hid H4.out.drew
  replace HN := Lib.hid HN.out.drew
  replace HB := Lib.hid HB.out.drew
  generalize V.drew = V0 at *
  refine wpAnyH_ready (rs := [5]) (by kernel_rfl) (by simp) ?_
  refine AllReadyH.cons (o := ⟨_, _, _, _, _, _⟩) rfl (fun K hK => ?_) AllReadyH.nil
  have c0 : V0.cell? ⟨b2, 0, none⟩ = some a0 := by rw [Blk.cell H2.out]; rfl
  have f0 := H2.out.frozen 0
  have c1 : V0.cell? ⟨b2, 1, none⟩ = some a1 := by rw [Blk.cell H2.out]; rfl
  have f1 := H2.out.frozen 1
  have c2 : V0.cell? ⟨b2, 2, none⟩ = some a2 := by rw [Blk.cell H2.out]; rfl
  have f2 := H2.out.frozen 2
  have c3 : V0.cell? ⟨b2, 3, none⟩ = some a3 := by rw [Blk.cell H2.out]; rfl
  have f3 := H2.out.frozen 3
  have c4 : V0.cell? ⟨b2, 4, none⟩ = some a4 := by rw [Blk.cell H2.out]; rfl
  have f4 := H2.out.frozen 4
  have c5 : V0.cell? ⟨b2, 5, none⟩ = some a5 := by rw [Blk.cell H2.out]; rfl
  have f5 := H2.out.frozen 5
  replace H2 : Hid (Blk (V0.setCell ⟨b2, 0, none⟩ (.int .i64 0)) b2 42 #[.int .i64 0, a1, a2, a3, a4, a5]) := H2.out.set_ 0 (.int .i64 0)
  replace H3 := Lib.hid (H3.out.far (p := ⟨b2, 0, none⟩) (show b3 ≠ b2 by omega) (.int .i64 0))
  replace H4 := Lib.hid (H4.out.far (p := ⟨b2, 0, none⟩) (show b4 ≠ b2 by omega) (.int .i64 0))
  replace HN := Lib.hid (HN.out.far (p := ⟨b2, 0, none⟩) (show N ≠ b2 by omega) (.int .i64 0))
  replace HB := Lib.hid (HB.out.setCell (p := ⟨b2, 0, none⟩) (show B ≤ b2 by omega) (.int .i64 0))
  replace H2 : Hid (Blk ((V0.setCell ⟨b2, 0, none⟩ (.int .i64 0)).setCell ⟨b2, 1, none⟩ (.int .i64 0)) b2 42 #[.int .i64 0, .int .i64 0, a2, a3, a4, a5]) := H2.out.set_ 1 (.int .i64 0)
  replace H3 := Lib.hid (H3.out.far (p := ⟨b2, 1, none⟩) (show b3 ≠ b2 by omega) (.int .i64 0))
  replace H4 := Lib.hid (H4.out.far (p := ⟨b2, 1, none⟩) (show b4 ≠ b2 by omega) (.int .i64 0))
  replace HN := Lib.hid (HN.out.far (p := ⟨b2, 1, none⟩) (show N ≠ b2 by omega) (.int .i64 0))
  replace HB := Lib.hid (HB.out.setCell (p := ⟨b2, 1, none⟩) (show B ≤ b2 by omega) (.int .i64 0))
  replace H2 : Hid (Blk (((V0.setCell ⟨b2, 0, none⟩ (.int .i64 0)).setCell ⟨b2, 1, none⟩ (.int .i64 0)).setCell ⟨b2, 2, none⟩ (.slice none 0 0)) b2 42 #[.int .i64 0, .int .i64 0, .slice none 0 0, a3, a4, a5]) := H2.out.set_ 2 (.slice none 0 0)
  replace H3 := Lib.hid (H3.out.far (p := ⟨b2, 2, none⟩) (show b3 ≠ b2 by omega) (.slice none 0 0))
  replace H4 := Lib.hid (H4.out.far (p := ⟨b2, 2, none⟩) (show b4 ≠ b2 by omega) (.slice none 0 0))
  replace HN := Lib.hid (HN.out.far (p := ⟨b2, 2, none⟩) (show N ≠ b2 by omega) (.slice none 0 0))
  replace HB := Lib.hid (HB.out.setCell (p := ⟨b2, 2, none⟩) (show B ≤ b2 by omega) (.slice none 0 0))
  replace H2 : Hid (Blk ((((V0.setCell ⟨b2, 0, none⟩ (.int .i64 0)).setCell ⟨b2, 1, none⟩ (.int .i64 0)).setCell ⟨b2, 2, none⟩ (.slice none 0 0)).setCell ⟨b2, 3, none⟩ (.slice none 0 0)) b2 42 #[.int .i64 0, .int .i64 0, .slice none 0 0, .slice none 0 0, a4, a5]) := H2.out.set_ 3 (.slice none 0 0)
  replace H3 := Lib.hid (H3.out.far (p := ⟨b2, 3, none⟩) (show b3 ≠ b2 by omega) (.slice none 0 0))
  replace H4 := Lib.hid (H4.out.far (p := ⟨b2, 3, none⟩) (show b4 ≠ b2 by omega) (.slice none 0 0))
  replace HN := Lib.hid (HN.out.far (p := ⟨b2, 3, none⟩) (show N ≠ b2 by omega) (.slice none 0 0))
  replace HB := Lib.hid (HB.out.setCell (p := ⟨b2, 3, none⟩) (show B ≤ b2 by omega) (.slice none 0 0))
  replace H2 : Hid (Blk (((((V0.setCell ⟨b2, 0, none⟩ (.int .i64 0)).setCell ⟨b2, 1, none⟩ (.int .i64 0)).setCell ⟨b2, 2, none⟩ (.slice none 0 0)).setCell ⟨b2, 3, none⟩ (.slice none 0 0)).setCell ⟨b2, 4, none⟩ (.slice none 0 0)) b2 42 #[.int .i64 0, .int .i64 0, .slice none 0 0, .slice none 0 0, .slice none 0 0, a5]) := H2.out.set_ 4 (.slice none 0 0)
  replace H3 := Lib.hid (H3.out.far (p := ⟨b2, 4, none⟩) (show b3 ≠ b2 by omega) (.slice none 0 0))
  replace H4 := Lib.hid (H4.out.far (p := ⟨b2, 4, none⟩) (show b4 ≠ b2 by omega) (.slice none 0 0))
  replace HN := Lib.hid (HN.out.far (p := ⟨b2, 4, none⟩) (show N ≠ b2 by omega) (.slice none 0 0))
  replace HB := Lib.hid (HB.out.setCell (p := ⟨b2, 4, none⟩) (show B ≤ b2 by omega) (.slice none 0 0))
  replace H2 : Hid (Blk ((((((V0.setCell ⟨b2, 0, none⟩ (.int .i64 0)).setCell ⟨b2, 1, none⟩ (.int .i64 0)).setCell ⟨b2, 2, none⟩ (.slice none 0 0)).setCell ⟨b2, 3, none⟩ (.slice none 0 0)).setCell ⟨b2, 4, none⟩ (.slice none 0 0)).setCell ⟨b2, 5, none⟩ (.slice none 0 0)) b2 42 #[.int .i64 0, .int .i64 0, .slice none 0 0, .slice none 0 0, .slice none 0 0, .slice none 0 0]) := H2.out.set_ 5 (.slice none 0 0)
  replace H3 := Lib.hid (H3.out.far (p := ⟨b2, 5, none⟩) (show b3 ≠ b2 by omega) (.slice none 0 0))
  replace H4 := Lib.hid (H4.out.far (p := ⟨b2, 5, none⟩) (show b4 ≠ b2 by omega) (.slice none 0 0))
  replace HN := Lib.hid (HN.out.far (p := ⟨b2, 5, none⟩) (show N ≠ b2 by omega) (.slice none 0 0))
  replace HB := Lib.hid (HB.out.setCell (p := ⟨b2, 5, none⟩) (show B ≤ b2 by omega) (.slice none 0 0))
  go_simp
  clear c0 f0 c1 f1 c2 f2 c3 f3 c4 f4 c5 f5
  generalize ((((((V0.setCell ⟨b2, 0, none⟩ (.int .i64 0)).setCell ⟨b2, 1, none⟩ (.int .i64 0)).setCell ⟨b2, 2, none⟩ (.slice none 0 0)).setCell ⟨b2, 3, none⟩ (.slice none 0 0)).setCell ⟨b2, 4, none⟩ (.slice none 0 0)).setCell ⟨b2, 5, none⟩ (.slice none 0 0)) = V1 at *
  refine hK.out _ _ (by obtain ⟨y0, y1, y2⟩ := HN.out.cells3; exact ⟨y0, y1, y2⟩) (fun hH => ?_)
  clear hK K
  refine wpAnyH_ready (rs := [6]) (by kernel_rfl) (by simp) ?_
  refine AllReadyH.cons (o := ⟨_, _, _, _, _, _⟩) rfl (fun K hK => ?_) AllReadyH.nil
  have c0 : V1.cell? ⟨b3, 0, none⟩ = some a6 := by rw [Blk.cell H3.out]; rfl
  have f0 := H3.out.frozen 0
  have c1 : V1.cell? ⟨b3, 1, none⟩ = some a7 := by rw [Blk.cell H3.out]; rfl
  have f1 := H3.out.frozen 1
  replace H2 := Lib.hid (H2.out.far (p := ⟨b3, 0, none⟩) (show b2 ≠ b3 by omega) (.int .i64 k))
  replace H3 : Hid (Blk (V1.setCell ⟨b3, 0, none⟩ (.int .i64 k)) b3 48 #[.int .i64 k, a7]) := H3.out.set_ 0 (.int .i64 k)
  replace H4 := Lib.hid (H4.out.far (p := ⟨b3, 0, none⟩) (show b4 ≠ b3 by omega) (.int .i64 k))
  replace HN := Lib.hid (HN.out.far (p := ⟨b3, 0, none⟩) (show N ≠ b3 by omega) (.int .i64 k))
  replace HB := Lib.hid (HB.out.setCell (p := ⟨b3, 0, none⟩) (show B ≤ b3 by omega) (.int .i64 k))
  replace H2 := Lib.hid (H2.out.far (p := ⟨b3, 1, none⟩) (show b2 ≠ b3 by omega) (.int .i64 c))
  replace H3 : Hid (Blk ((V1.setCell ⟨b3, 0, none⟩ (.int .i64 k)).setCell ⟨b3, 1, none⟩ (.int .i64 c)) b3 48 #[.int .i64 k, .int .i64 c]) := H3.out.set_ 1 (.int .i64 c)
  replace H4 := Lib.hid (H4.out.far (p := ⟨b3, 1, none⟩) (show b4 ≠ b3 by omega) (.int .i64 c))
  replace HN := Lib.hid (HN.out.far (p := ⟨b3, 1, none⟩) (show N ≠ b3 by omega) (.int .i64 c))
  replace HB := Lib.hid (HB.out.setCell (p := ⟨b3, 1, none⟩) (show B ≤ b3 by omega) (.int .i64 c))
  go_simp
  clear c0 f0 c1 f1
  generalize ((V1.setCell ⟨b3, 0, none⟩ (.int .i64 k)).setCell ⟨b3, 1, none⟩ (.int .i64 c)) = V2 at *
  refine hK.out _ _ (by obtain ⟨y0, y1, y2⟩ := HN.out.cells3; exact ⟨y0, y1, y2⟩) (fun hH => ?_)
  clear hK K
  refine wpAnyH_ready (rs := [7]) (by kernel_rfl) (by simp) ?_
  refine AllReadyH.cons (o := ⟨_, _, _, _, _, _⟩) rfl (fun K hK => ?_) AllReadyH.nil
  have c0 : V2.cell? ⟨b4, 0, none⟩ = some a8 := by rw [Blk.cell H4.out]; rfl
  have f0 := H4.out.frozen 0
  replace H2 := Lib.hid (H2.out.far (p := ⟨b4, 0, none⟩) (show b2 ≠ b4 by omega) (.int .i64 x))
  replace H3 := Lib.hid (H3.out.far (p := ⟨b4, 0, none⟩) (show b3 ≠ b4 by omega) (.int .i64 x))
  replace H4 : Hid (Blk (V2.setCell ⟨b4, 0, none⟩ (.int .i64 x)) b4 26 #[.int .i64 x]) := H4.out.set_ 0 (.int .i64 x)
  replace HN := Lib.hid (HN.out.far (p := ⟨b4, 0, none⟩) (show N ≠ b4 by omega) (.int .i64 x))
  replace HB := Lib.hid (HB.out.setCell (p := ⟨b4, 0, none⟩) (show B ≤ b4 by omega) (.int .i64 x))
  go_simp
  clear c0 f0
  generalize (V2.setCell ⟨b4, 0, none⟩ (.int .i64 x)) = V3 at *
  refine hK.out _ _ (by obtain ⟨y0, y1, y2⟩ := HN.out.cells3; exact ⟨y0, y1, y2⟩) (fun hH => ?_)
  clear hK K
  refine wpAnyH_done (by kernel_rfl) ?_ _
  exact ⟨rfl, _, rfl, .tuple #[], by simp [results, Tryz.results88], rfl, rfl, H2.out, H3.out, H4.out, HB.out⟩

end Go.Proofs.YtekajoifgdpmlaaGreatDoor

/-! I6 -/
namespace Go.Proofs.YtekajoifgdpmlaaGreatDoor
open Go.RowKit Pl Go.Shelf

/-- One block has turned. -/
structure Turned (g : Nat) (w V : World) : Prop where
  os : V.os = w.os
  tape : V.tape = w.tape
  output : V.output = w.output
  size : V.heap.size = w.heap.size
  block : ∀ b, b ≠ g → V.heap[b]? = w.heap[b]?
variable {P : Program}
theorem store_row {w : World} {g : Nat} {t ty : TypeId} {old cells : Array Value} (h : Blk w g t old) (hi : (P.info? ty).map (·.size) = some cells.size) (ho : old.size = cells.size) (h1 : cells.all (·.oneCell') = true) :
    ∃ V, (storeVar ty ⟨g, 0, none⟩ (.agg cells)).run P w = .ok () V ∧ (Instr.storeAt ty (.pointer (some ⟨g, 0, none⟩)) (.agg cells)).run P w = .ok () V ∧ Blk V g t cells ∧ Turned g w V := by
  have hr := run_storeVar_row (P := P) w g t ty old cells h hi ho h1
  refine ⟨w.setRow g cells, hr, ?_, ?_, ⟨rfl, rfl, rfl, by simp [World.setRow], fun b hb => ?_⟩⟩
  · simp only [Instr.storeAt, Instr.sureAddr, Sem.run_bind, Sem.run_pure, Result.andThen]
    exact hr
  · unfold Blk at h ⊢
    simp [World.setRow, Array.getElem?_modify, h]
  · simp [World.setRow, Array.getElem?_modify, Ne.symm hb]
theorem wpList_store {w : World} {ops : Array Oper} {rest : List Oper} {o : Oper} {a : Act} {Q : Exit → Act → World → Prop} (hgd : o.guard = none) (p x : Operand) (ty : TypeId) (ho : o.op = .store ty p x)
    (g : Nat) (t : TypeId) (old cells : Array Value) (hp : a.eval p = .pointer (some ⟨g, 0, none⟩)) (hx : a.eval x = .agg cells) (h : Blk w g t old) (hi : (P.info? ty).map (·.size) = some cells.size) (hs : old.size = cells.size) (h1 : cells.all (·.oneCell') = true)
    (k : ∀ V, Blk V g t cells → Turned g w V → wpList P ops Q rest (a.put o.dst undef) V) : wpList P ops Q (o :: rest) a w := by
  obtain ⟨V, _, hr, hV, hT⟩ := store_row h hi hs h1
  refine wpList_plain hgd fun K hK => ?_
  unfold Oper.wp execOp
  simp only [ho, hp, hx]
  rw [Sem.run_bind, hr, Result.andThen_ok, Sem.run_pure]
  exact hK _ _ (k V hV hT)
theorem step_store {w : World} {ops : Array Oper} {o : Oper} {a : Act} {K : Act → World → Prop} {Q : Exit → Act → World → Prop} {E0 : Prop} (hgd : o.guard = none) (p x : Operand) (ty : TypeId) (ho : o.op = .store ty p x)
    (g : Nat) (t : TypeId) (old cells : Array Value) (hp : a.eval p = .pointer (some ⟨g, 0, none⟩)) (hx : a.eval x = .agg cells) (h : Blk w g t old) (hi : (P.info? ty).map (·.size) = some cells.size) (hs : old.size = cells.size) (h1 : cells.all (·.oneCell') = true)
    (k : ∀ V, Blk V g t cells → Turned g w V → K (a.put o.dst undef) V) : if Region.wanted o (yielded ops a.tmps) = true then Oper.wp P o a w K Q else E0 := by
  obtain ⟨V, _, hr, hV, hT⟩ := store_row (P := P) h hi hs h1
  have hw : Region.wanted o (yielded ops a.tmps) = true := by simp [Region.wanted, hgd]
  rw [if_pos hw]
  unfold Oper.wp execOp
  simp only [ho, hp, hx]
  rw [Sem.run_bind, hr, Result.andThen_ok, Sem.run_pure]
  exact k V hV hT
section
variable {g : Nat} {w V : World}
theorem Turned.blk {b : Nat} {t : TypeId} {cs : Array Value} (h : Turned g w V) (hk : Blk w b t cs) (hb : b ≠ g) : Blk V b t cs := (h.block b hb).trans hk
theorem Turned.below {B : Nat} {w0 : World} (h : Turned g w V) (hb : Below B w0 w) (hB : B ≤ g) : Below B w0 V := hb.trans ⟨h.os, h.tape, h.output, Nat.le_of_eq h.size.symm, fun b hb => h.block b (by omega)⟩
theorem Turned.ly {B E : Nat} {P : World → Prop} (h : Turned g w V) (hl : LyI B E w P) (hb : g < B ∨ E ≤ g) : LyI B E V P := hl.next (fun b b1 b2 => h.block b (by omega))
end

end Go.Proofs.YtekajoifgdpmlaaGreatDoor

/-! I5 -/
namespace Go.Proofs.YtekajoifgdpmlaaGreatDoor
open Go.RowKit Pl Go.Shelf

theorem resDec {tmps : Array Value} {W : World} {g2 g3 g4 : Nat} {t2 t3 t4 : TypeId} {x0 x1 x2 x3 x4 x5 y0 y1 z : Value} (h2 : tmps.getD 2 undef = .pointer (some ⟨g2, 0, none⟩)) (h3 : tmps.getD 3 undef = .pointer (some ⟨g3, 0, none⟩)) (h4 : tmps.getD 4 undef = .pointer (some ⟨g4, 0, none⟩)) (b2 : Blk W g2 t2 #[x0, x1, x2, x3, x4, x5]) (b3 : Blk W g3 t3 #[y0, y1]) (b4 : Blk W g4 t4 #[z]) :
    (results Tryz.f21 tmps).run Tryz.prog W = .ok (.tuple #[.agg #[x0, x1, x2, x3, x4, x5], .agg #[y0, y1], z]) W := by
  have c0 := b2.cell 0
  have c1 := b2.cell 1
  have c2 := b2.cell 2
  have c3 := b2.cell 3
  have c4 := b2.cell 4
  have c5 := b2.cell 5
  have d0 := b3.cell 0
  have d1 := b3.cell 1
  have e0 := b4.cell 0
  simp at c0 c1 c2 c3 c4 c5 d0 d1 e0
  have h2' : tmps[2]?.getD undef = .pointer (some ⟨g2, 0, none⟩) := by simpa using h2
  have h3' : tmps[3]?.getD undef = .pointer (some ⟨g3, 0, none⟩) := by simpa using h3
  have h4' : tmps[4]?.getD undef = .pointer (some ⟨g4, 0, none⟩) := by simpa using h4
  simp [results, Tryz.results21, h2', h3', h4', go_sem, c0, c1, c2, c3, c4, c5, d0, d1, e0]
theorem rc_zero (W : World) : RC W [.int .i64 0, .int .i64 0, .slice none 0 0, .slice none 0 0, .slice none 0 0, .slice none 0 0] zeroC := ⟨_, _, _, _, _, _, _, _, _, _, _, _, rfl, Sl.nil _, Sl.nil _, Sl.nil _, Sl.nil _⟩
/-- What Decode returns. -/
def RetDec (o : Ct × Int × Int × Int) (w : World) (e : Ending) (w' : World) : Prop := ∃ vs : List Value, e = .returned (.tuple #[.agg vs.toArray, .agg #[.int .i64 o.2.1, .int .i64 o.2.2.1], .int .i64 o.2.2.2]) ∧ vs.length = 6 ∧ RC w' vs o.1 ∧ Below w.heap.size w w'

theorem link_lens {n : Nat} {s : List UInt8} {l : Nat} {f : Lk} {r : List UInt8} {l' : Nat} (h : linkP n s l = .ok f r l') : l' + r.length ≤ l + s.length := by
  obtain ⟨c, s1, l1, h1, h2⟩ := bind_eq h
  obtain ⟨a, s2, l2, h3, h4⟩ := bind_eq h2
  obtain ⟨b, s3, l3, h5, h6⟩ := bind_eq h4
  obtain ⟨v, s4, l4, h7, h8⟩ := bind_eq h6
  injection h8 with a1 a2 a3
  subst a1 a2 a3
  have := nums_lens h1
  have := ivs_lens h3
  have := set_lens h5
  have := rows_lens h7
  omega
theorem links_lens {n : Nat} : ∀ {k : Nat} {s : List UInt8} {l : Nat} {m : List Lk} {r : List UInt8} {l' : Nat}, linksP n k s l = .ok m r l' → l' + r.length ≤ l + s.length := by
  intro k
  induction k with
  | zero => intro s l m r l' h; injection h with a1 a2 a3; subst a1 a2 a3; exact Nat.le_refl _
  | succ k ih =>
    intro s l m r l' h
    obtain ⟨d, s1, l1, h1, h2⟩ := bind_eq h
    obtain ⟨q, s2, l2, h3, h4⟩ := bind_eq h2
    injection h4 with a1 a2 a3
    subst a1 a2 a3
    have := link_lens h1
    have := ih h3
    omega
theorem cert_lens {s : List UInt8} {l : Nat} {x : Ct} {r : List UInt8} {l' : Nat} (h : certP s l = .ok x r l') : l' + r.length ≤ l + s.length := by
  obtain ⟨p, s1, l1, h1, h2⟩ := bind_eq h
  obtain ⟨v0, s2, l2, h3, h4⟩ := bind_eq h2
  obtain ⟨v1, s3, l3, h5, h6⟩ := bind_eq h4
  obtain ⟨v2, s4, l4, h7, h8⟩ := bind_eq h6
  obtain ⟨v3, s5, l5, h9, h10⟩ := bind_eq h8
  obtain ⟨st, s6, l6, h11, h12⟩ := bind_eq h10
  obtain ⟨ls, s7, l7, h13, h14⟩ := bind_eq h12
  obtain ⟨q, s8, l8, h15, h16⟩ := bind_eq h14
  injection h16 with a1 a2 a3
  subst a1 a2 a3
  obtain ⟨rfl, rfl, _, _⟩ := int_lens h3
  obtain ⟨rfl, rfl, _, _⟩ := int_lens h5
  obtain ⟨rfl, rfl, _, _⟩ := int_lens h7
  obtain ⟨rfl, rfl, _, _⟩ := int_lens h9
  have := (next_lens h1).1
  have := set_lens h11
  have := links_lens h13
  have := (next_lens h15).1
  omega
theorem results_put {tmps : Array Value} {i : Nat} {v : Value} (h2 : i ≠ 2) (h3 : i ≠ 3) (h4 : i ≠ 4) : results Tryz.f21 (tmps.setIfInBounds i v) = results Tryz.f21 tmps := by
  simp [results, Tryz.results21, Array.getElem?_setIfInBounds, h2, h3, h4]
theorem leaves_put {tmps : Array Value} {i : Nat} {v : Value} (h2 : i ≠ 2) (h3 : i ≠ 3) (h4 : i ≠ 4) {R : Ending → World → Prop} : ∀ (ds : List Deferred) (u : FrameMode) (w : World), Leaves Tryz.prog Tryz.f21 (tmps.setIfInBounds i v) R ds u w → Leaves Tryz.prog Tryz.f21 tmps R ds u w := by
  intro ds
  induction ds with
  | nil =>
    intro u w h
    cases u with
    | returning => unfold Leaves at h ⊢; rwa [results_put h2 h3 h4] at h
    | panicking c => exact h
    | run => exact h
  | cons d ds ih =>
    intro u w h
    unfold Leaves at h ⊢
    obtain ⟨hu, fv, cap, f, args, e1, e2, hc⟩ := h
    refine ⟨hu, fv, cap, f, args, e1, e2, hc.mono ?_⟩
    intro e u' w' hh
    cases e with
    | returned v => exact ih _ _ hh
    | panicked c => exact ih _ _ hh
    | outgrown => exact hh
theorem door_put {i : Nat} {v : Value} (h2 : i ≠ 2) (h3 : i ≠ 3) (h4 : i ≠ 4) {R : Ending → World → Prop} {c : List PanicEntry} {a : Act} {w : World} (h : bodyPostD Tryz.prog Tryz.f21 R (.panic c) (a.put (some i) v) w) : bodyPostD Tryz.prog Tryz.f21 R (.panic c) a w := leaves_put h2 h3 h4 _ _ _ h
theorem Ev.mono {B B' : Nat} {w : World} (h : Ev B w) (hB : B ≤ B') : Ev B' w := fun W hW => h W (hW.mono hB)
theorem gd_bd {d : Dy} (h : Gd d) : Bd d := by
  have hv := h.2
  unfold Bd
  by_cases hl : d.l = []
  · rw [hl]; simp
  · unfold vld at hv
    have hv' := of_decide_eq_true hv
    rcases hv' with hv' | hv'
    · exact absurd hv'.1 hl
    · have := hv'.2.1; omega
theorem gd_bdF {n : Nat} {f : Fr} (h : GdF n f) : BdF f := ⟨fun d hd => gd_bd (h.c.2 d hd), fun l hl d hd => gd_bd ((h.a.2 l hl).2 d hd), fun x hx => ⟨gd_bd (h.r.2 x hx).2.1, gd_bd (h.r.2 x hx).2.2⟩⟩
theorem gd_bdC {x : Ct} (h : GdC x) : BdC x := ⟨gd_bdF h.s, fun y hy => ⟨gd_bd (h.l y hy).h, fun z hz => ⟨gd_bd ((h.l y hy).t.2 z hz).2.1, gd_bd ((h.l y hy).t.2 z hz).2.2⟩, gd_bdF (h.l y hy).e, fun l hl d hd => gd_bd (((h.l y hy).v.2 l hl).2 d hd)⟩⟩

set_option maxRecDepth 100000 in
set_option maxHeartbeats 2000000 in
theorem decode_long (s : List UInt8) (w : World) (hs : 65536 < s.length) (hs2 : s.length ≤ 1000000) :
    Calls Tryz.prog 21 #[.string ⟨s.toArray⟩] w (RetDec (zeroC, 0, 0, 5) w) := by
  go_enter_defers Tryz.func21, Tryz.ntmps21
  go_wp2_with fail
  have h2 := ((Blk.new w 42 #[.int .i64 0, .int .i64 0, .slice none 0 0, .slice none 0 0, .slice none 0 0, .slice none 0 0]).alloc (.cells #[.int .i64 0, .int .i64 0] 48)).alloc (.cells #[.int .i64 5] 26)
  have h3 := (Blk.newAt (w.alloc (.cells #[.int .i64 0, .int .i64 0, .slice none 0 0, .slice none 0 0, .slice none 0 0, .slice none 0 0] 42)) 48 #[.int .i64 0, .int .i64 0] (g := w.heap.size + 1) (by simp)).alloc (.cells #[.int .i64 5] 26)
  have h4 := Blk.newAt ((w.alloc (.cells #[.int .i64 0, .int .i64 0, .slice none 0 0, .slice none 0 0, .slice none 0 0, .slice none 0 0] 42)).alloc (.cells #[.int .i64 0, .int .i64 0] 48)) 26 #[.int .i64 5] (g := w.heap.size + 1 + 1) (by simp)
  exact ⟨_, resDec rfl rfl rfl h2 h3 h4, _, rfl, rfl, rc_zero _, bnext (bnext (ballo _ _) (ballo _ _)) (ballo _ _)⟩

set_option maxRecDepth 100000 in
set_option maxHeartbeats 20000000 in
theorem decode_short (s : List UInt8) (w : World) (hs : ¬ 65536 < s.length) (he : Ev w.heap.size w) :
    Calls Tryz.prog 21 #[.string ⟨s.toArray⟩] w (RetDec (decP s) w) := by
  have hmf : ∀ (fn : Fn) (first cap : Array Value) (w : World), (Instr.makeFunc fn first cap).run Tryz.prog w = .ok (.func fn first cap) w := fun _ _ _ _ => rfl
  have hs2 : s.length ≤ 65536 := by omega
  have HL := Lib.hid hs
  have H2 := Lib.hid ((((Blk.new w 42 #[.int .i64 0, .int .i64 0, .slice none 0 0, .slice none 0 0, .slice none 0 0, .slice none 0 0]).alloc (.cells #[.int .i64 0, .int .i64 0] 48)).alloc (.cells #[.int .i64 0] 26)).alloc (.cells #[.string ⟨s.toArray⟩, .int .i64 0] 124))
  have H3 := Lib.hid (((Blk.newAt (w.alloc (.cells #[.int .i64 0, .int .i64 0, .slice none 0 0, .slice none 0 0, .slice none 0 0, .slice none 0 0] 42)) 48 #[.int .i64 0, .int .i64 0] (g := w.heap.size + 1) (by simp)).alloc (.cells #[.int .i64 0] 26)).alloc (.cells #[.string ⟨s.toArray⟩, .int .i64 0] 124))
  have H4 := Lib.hid ((Blk.newAt ((w.alloc (.cells #[.int .i64 0, .int .i64 0, .slice none 0 0, .slice none 0 0, .slice none 0 0, .slice none 0 0] 42)).alloc (.cells #[.int .i64 0, .int .i64 0] 48)) 26 #[.int .i64 0] (g := w.heap.size + 1 + 1) (by simp)).alloc (.cells #[.string ⟨s.toArray⟩, .int .i64 0] 124))
  have HRd : Hid (Rd (w.heap.size + 1 + 1 + 1) s 0 ((((w.alloc (.cells #[.int .i64 0, .int .i64 0, .slice none 0 0, .slice none 0 0, .slice none 0 0, .slice none 0 0] 42)).alloc (.cells #[.int .i64 0, .int .i64 0] 48)).alloc (.cells #[.int .i64 0] 26)).alloc (.cells #[.string ⟨s.toArray⟩, .int .i64 0] 124))) := Blk.newAt (((w.alloc (.cells #[.int .i64 0, .int .i64 0, .slice none 0 0, .slice none 0 0, .slice none 0 0, .slice none 0 0] 42)).alloc (.cells #[.int .i64 0, .int .i64 0] 48)).alloc (.cells #[.int .i64 0] 26)) 124 #[.string ⟨s.toArray⟩, .int .i64 0] (by simp)
  have HB : Hid (Below w.heap.size w ((((w.alloc (.cells #[.int .i64 0, .int .i64 0, .slice none 0 0, .slice none 0 0, .slice none 0 0, .slice none 0 0] 42)).alloc (.cells #[.int .i64 0, .int .i64 0] 48)).alloc (.cells #[.int .i64 0] 26)).alloc (.cells #[.string ⟨s.toArray⟩, .int .i64 0] 124))) := bnext (bnext (bnext (ballo _ _) (ballo _ _)) (ballo _ _)) (ballo _ _)
  have HE := Lib.hid ((he.next HB.out).mono (show w.heap.size ≤ w.heap.size + 1 + 1 + 1 by omega))
  have hsz : ((((w.alloc (.cells #[.int .i64 0, .int .i64 0, .slice none 0 0, .slice none 0 0, .slice none 0 0, .slice none 0 0] 42)).alloc (.cells #[.int .i64 0, .int .i64 0] 48)).alloc (.cells #[.int .i64 0] 26)).alloc (.cells #[.string ⟨s.toArray⟩, .int .i64 0] 124)).heap.size = w.heap.size + 4 := by simp
  have HE0 := Lib.hid he
  clear he hs
  go_enter_defers Tryz.func21, Tryz.ntmps21
  go_wp2_with fail
  generalize ((((w.alloc (.cells #[.int .i64 0, .int .i64 0, .slice none 0 0, .slice none 0 0, .slice none 0 0, .slice none 0 0] 42)).alloc (.cells #[.int .i64 0, .int .i64 0] 48)).alloc (.cells #[.int .i64 0] 26)).alloc (.cells #[.string ⟨s.toArray⟩, .int .i64 0] 124)) = w4 at *
  generalize hg3 : w.heap.size + 1 = g3 at *
  generalize hg4 : g3 + 1 = g4 at *
  generalize hg : g4 + 1 = g at *
  refine (certificate_any g s 0 _ HRd.out HE.out (by omega)).mono ?_
  rintro e w5 ⟨hk, hm⟩
  have hs5 := hk.size
  replace H2 := Lib.hid (hk.blk H2.out (by omega))
  replace H3 := Lib.hid (hk.blk H3.out (by omega))
  replace H4 := Lib.hid (hk.blk H4.out (by omega))
  replace HB := Lib.hid (HB.out.trans ((hk.below (by omega)).mono (by omega)))
  replace HE := Lib.hid (HE.out.next (hk.below (by omega)))
  clear hk
  cases hN : certP s 0 with
  | bad k c x =>
    rw [hN] at hm
    simp only [] at hm
    subst hm
    have ho : decP s = (zeroC, k, c, x) := by unfold decP; rw [if_neg HL.out, hN]
    have HO := Lib.hid ho
    clear hN ho
    unfold wrongP
    go_wp2_with fail
    refine leaves_cons (f := 88) (args := #[.pointer (some ⟨w.heap.size, 0, none⟩), .pointer (some ⟨g3, 0, none⟩), .pointer (some ⟨g4, 0, none⟩)]) (by simp) (by simp [go_sem]) ?_
    refine (catch_wrong w.heap.size w.heap.size g3 g4 k c x [] _ _ _ _ _ _ _ _ _ _ H2.out H3.out H4.out (by omega) (by omega) (by omega) (by omega) (by omega) (by omega)).mono ?_
    rintro e u' w6 ⟨rfl, rfl, k2, k3, k4, hb6⟩
    rw [HO.out]
    exact ⟨_, resDec rfl rfl rfl k2 k3 k4, _, rfl, rfl, rc_zero _, HB.out.trans hb6⟩
  | ok x r l =>
    rw [hN] at hm
    obtain ⟨u, rfl, hr, vs, rfl, hy⟩ := hm
    replace HRd := Lib.hid hr
    have HG := Lib.hid (gd_bdC (cert_spec hN).2)
    have hll := cert_lens hN
    have HN := Lib.hid hN
    obtain ⟨A, n, c, B, m, dd, C, p, q, L, ln, lc, rfl, _, _, _, _⟩ := hy.here
    have HY := Lib.hid (Ly.int hy)
    clear hN hr hy
    replace HE := Lib.hid (show Ev w.heap.size w5 from HE0.out.next HB.out)
    go_wp2_with (refine wpList_store rfl _ _ 42 rfl w.heap.size 42 #[.int .i64 0, .int .i64 0, .slice none 0 0, .slice none 0 0, .slice none 0 0, .slice none 0 0] #[.int .i64 x.prec, .int .i64 x.order, .slice A n c, .slice B m dd, .slice C p q, .slice L ln lc] rfl rfl H2.out (by kernel_rfl) rfl (by simp [Value.oneCell']) ?_)
    intro V hV hT
    replace H2 := Lib.hid hV
    replace H3 := Lib.hid (hT.blk H3.out (show g3 ≠ w.heap.size by omega))
    replace H4 := Lib.hid (hT.blk H4.out (show g4 ≠ w.heap.size by omega))
    replace HRd : Hid (Rd g r l V) := hT.blk HRd.out (show g ≠ w.heap.size by omega)
    replace HB := Lib.hid (hT.below HB.out (show w.heap.size ≤ w.heap.size by omega))
    replace HY := Lib.hid (hT.ly HY.out (by omega))
    replace HE := Lib.hid (HE.out.next (hT.below (Below.refl w.heap.size _) (show w.heap.size ≤ w.heap.size by omega)))
    have hTs := Nat.le_of_eq hT.size
    have hTt := Nat.le_of_eq hT.size.symm
    clear hV hT
    have qr : V.cell? ⟨g, 0, none⟩ = some (.string ⟨r.toArray⟩) := by rw [Blk.cell HRd.out]; rfl
    by_cases hr0 : r = []
    · subst hr0
      have p0 : V.cell? ⟨w.heap.size, 0, none⟩ = some (.int .i64 x.prec) := by rw [Blk.cell H2.out]; rfl
      have p1 : V.cell? ⟨w.heap.size, 1, none⟩ = some (.int .i64 x.order) := by rw [Blk.cell H2.out]; rfl
      have p2 : V.cell? ⟨w.heap.size, 2, none⟩ = some (.slice A n c) := by rw [Blk.cell H2.out]; rfl
      have p3 : V.cell? ⟨w.heap.size, 3, none⟩ = some (.slice B m dd) := by rw [Blk.cell H2.out]; rfl
      have p4 : V.cell? ⟨w.heap.size, 4, none⟩ = some (.slice C p q) := by rw [Blk.cell H2.out]; rfl
      have p5 : V.cell? ⟨w.heap.size, 5, none⟩ = some (.slice L ln lc) := by rw [Blk.cell H2.out]; rfl
      go_wp2_with fail
      clear qr p0 p1 p2 p3 p4 p5
      refine (certValid_any [.int .i64 x.prec, .int .i64 x.order, .slice A n c, .slice B m dd, .slice C p q, .slice L ln lc] x _ (HY.out V (by omega) (fun _ _ _ => rfl)) HG.out HE.out.here.tabs).mono ?_
      rintro e w6 ⟨rfl, hb6⟩
      have hs6 := hb6.size
      replace H2 := Lib.hid (H2.out.below hb6 H2.out.lt)
      replace H3 := Lib.hid (H3.out.below hb6 H3.out.lt)
      replace H4 := Lib.hid (H4.out.below hb6 H4.out.lt)
      replace HB := Lib.hid (HB.out.trans (hb6.mono (by omega)))
      replace HY := Lib.hid (HY.out.below hb6 (by omega))
      clear hb6
      cases hv : ctV x with
      | false =>
        have HO : Hid (decP s = (zeroC, 0, 0, 1)) := by show _ = _; unfold decP; rw [if_neg HL.out, HN.out]; simp only []; rw [if_pos trivial, hv]; rfl
        clear hv HRd HE HY
        go_wp2_with (refine wpList_store rfl _ _ 42 rfl w.heap.size 42 #[.int .i64 x.prec, .int .i64 x.order, .slice A n c, .slice B m dd, .slice C p q, .slice L ln lc] #[.int .i64 0, .int .i64 0, .slice none 0 0, .slice none 0 0, .slice none 0 0, .slice none 0 0] rfl rfl H2.out (by kernel_rfl) rfl (by simp [Value.oneCell']) ?_)
        intro V1 hV hT
        replace H2 := Lib.hid hV
        replace H3 := Lib.hid (hT.blk H3.out (show g3 ≠ w.heap.size by omega))
        replace H4 := Lib.hid (hT.blk H4.out (show g4 ≠ w.heap.size by omega))
        replace HB := Lib.hid (hT.below HB.out (show w.heap.size ≤ w.heap.size by omega))
        have hTs := Nat.le_of_eq hT.size
        have hTt := Nat.le_of_eq hT.size.symm
        clear hV hT
        go_wp2_with (refine wpList_store rfl _ _ 48 rfl g3 48 #[.int .i64 0, .int .i64 0] #[.int .i64 0, .int .i64 0] rfl rfl H3.out (by kernel_rfl) rfl (by simp [Value.oneCell']) ?_)
        intro V2 hV hT
        replace H2 := Lib.hid (hT.blk H2.out (show w.heap.size ≠ g3 by omega))
        replace H3 := Lib.hid hV
        replace H4 := Lib.hid (hT.blk H4.out (show g4 ≠ g3 by omega))
        replace HB := Lib.hid (hT.below HB.out (show w.heap.size ≤ g3 by omega))
        have hTs := Nat.le_of_eq hT.size
        have hTt := Nat.le_of_eq hT.size.symm
        clear hV hT
        have c8 : V2.cell? ⟨g4, 0, none⟩ = some (.int .i64 0) := by rw [Blk.cell H4.out]; rfl
        have f8 : V2.frozen? ⟨g4, 0, none⟩ = false := H4.out.frozen 0
        have hV : Blk (V2.setCell ⟨g4, 0, none⟩ (.int .i64 1)) g4 26 #[.int .i64 1] := H4.out.set_ 0 (.int .i64 1)
        have hT : Turned g4 V2 (V2.setCell ⟨g4, 0, none⟩ (.int .i64 1)) := ⟨rfl, rfl, rfl, setCell_size _ _ _, fun b hb => Below.heap_setCell _ _ _ _ hb⟩
        replace H2 := Lib.hid (hT.blk H2.out (show w.heap.size ≠ g4 by omega))
        replace H3 := Lib.hid (hT.blk H3.out (show g3 ≠ g4 by omega))
        replace H4 := Lib.hid hV
        replace HB := Lib.hid (hT.below HB.out (show w.heap.size ≤ g4 by omega))
        have hTs := Nat.le_of_eq hT.size
        have hTt := Nat.le_of_eq hT.size.symm
        clear hV hT
        go_wp2_with fail
        refine leaves_cons (f := 88) (args := #[.pointer (some ⟨w.heap.size, 0, none⟩), .pointer (some ⟨g3, 0, none⟩), .pointer (some ⟨g4, 0, none⟩)]) (by simp) (by simp [go_sem]) ?_
        refine (catch_idle _ _ _ _).mono ?_
        rintro e u' w7 ⟨rfl, rfl, rfl⟩
        rw [HO.out]
        exact ⟨_, resDec rfl rfl rfl H2.out H3.out H4.out, [.int .i64 0, .int .i64 0, .slice none 0 0, .slice none 0 0, .slice none 0 0, .slice none 0 0], rfl, rfl, rc_zero _, HB.out⟩
      | true =>
        have HO : Hid (decP s = (x, 0, 0, 0)) := by show _ = _; unfold decP; rw [if_neg HL.out, HN.out]; simp only []; rw [if_pos trivial, hv]; rfl
        clear hv HRd HE
        have p0 : w6.cell? ⟨w.heap.size, 0, none⟩ = some (.int .i64 x.prec) := by rw [Blk.cell H2.out]; rfl
        have p1 : w6.cell? ⟨w.heap.size, 1, none⟩ = some (.int .i64 x.order) := by rw [Blk.cell H2.out]; rfl
        have p2 : w6.cell? ⟨w.heap.size, 2, none⟩ = some (.slice A n c) := by rw [Blk.cell H2.out]; rfl
        have p3 : w6.cell? ⟨w.heap.size, 3, none⟩ = some (.slice B m dd) := by rw [Blk.cell H2.out]; rfl
        have p4 : w6.cell? ⟨w.heap.size, 4, none⟩ = some (.slice C p q) := by rw [Blk.cell H2.out]; rfl
        have p5 : w6.cell? ⟨w.heap.size, 5, none⟩ = some (.slice L ln lc) := by rw [Blk.cell H2.out]; rfl
        go_wp2_with (refine wpList_store rfl _ _ 42 rfl w.heap.size 42 #[.int .i64 x.prec, .int .i64 x.order, .slice A n c, .slice B m dd, .slice C p q, .slice L ln lc] #[.int .i64 x.prec, .int .i64 x.order, .slice A n c, .slice B m dd, .slice C p q, .slice L ln lc] rfl rfl H2.out (by kernel_rfl) rfl (by simp [Value.oneCell']) ?_)
        clear p0 p1 p2 p3 p4 p5
        intro V1 hV hT
        replace H2 := Lib.hid hV
        replace H3 := Lib.hid (hT.blk H3.out (show g3 ≠ w.heap.size by omega))
        replace H4 := Lib.hid (hT.blk H4.out (show g4 ≠ w.heap.size by omega))
        replace HB := Lib.hid (hT.below HB.out (show w.heap.size ≤ w.heap.size by omega))
        replace HY := Lib.hid (hT.ly HY.out (by omega))
        have hTs := Nat.le_of_eq hT.size
        have hTt := Nat.le_of_eq hT.size.symm
        clear hV hT
        go_wp2_with (refine wpList_store rfl _ _ 48 rfl g3 48 #[.int .i64 0, .int .i64 0] #[.int .i64 0, .int .i64 0] rfl rfl H3.out (by kernel_rfl) rfl (by simp [Value.oneCell']) ?_)
        intro V2 hV hT
        replace H2 := Lib.hid (hT.blk H2.out (show w.heap.size ≠ g3 by omega))
        replace H3 := Lib.hid hV
        replace H4 := Lib.hid (hT.blk H4.out (show g4 ≠ g3 by omega))
        replace HB := Lib.hid (hT.below HB.out (show w.heap.size ≤ g3 by omega))
        replace HY := Lib.hid (hT.ly HY.out (by omega))
        have hTs := Nat.le_of_eq hT.size
        have hTt := Nat.le_of_eq hT.size.symm
        clear hV hT
        have c8 : V2.cell? ⟨g4, 0, none⟩ = some (.int .i64 0) := by rw [Blk.cell H4.out]; rfl
        have f8 : V2.frozen? ⟨g4, 0, none⟩ = false := H4.out.frozen 0
        have hV : Blk (V2.setCell ⟨g4, 0, none⟩ (.int .i64 0)) g4 26 #[.int .i64 0] := H4.out.set_ 0 (.int .i64 0)
        have hT : Turned g4 V2 (V2.setCell ⟨g4, 0, none⟩ (.int .i64 0)) := ⟨rfl, rfl, rfl, setCell_size _ _ _, fun b hb => Below.heap_setCell _ _ _ _ hb⟩
        replace H2 := Lib.hid (hT.blk H2.out (show w.heap.size ≠ g4 by omega))
        replace H3 := Lib.hid (hT.blk H3.out (show g3 ≠ g4 by omega))
        replace H4 := Lib.hid hV
        replace HB := Lib.hid (hT.below HB.out (show w.heap.size ≤ g4 by omega))
        replace HY := Lib.hid (hT.ly HY.out (by omega))
        have hTs := Nat.le_of_eq hT.size
        have hTt := Nat.le_of_eq hT.size.symm
        clear hV hT
        go_wp2_with fail
        refine leaves_cons (f := 88) (args := #[.pointer (some ⟨w.heap.size, 0, none⟩), .pointer (some ⟨g3, 0, none⟩), .pointer (some ⟨g4, 0, none⟩)]) (by simp) (by simp [go_sem]) ?_
        refine (catch_idle _ _ _ _).mono ?_
        rintro e u' w7 ⟨rfl, rfl, rfl⟩
        rw [HO.out]
        exact ⟨_, resDec rfl rfl rfl H2.out H3.out H4.out, [.int .i64 x.prec, .int .i64 x.order, .slice A n c, .slice B m dd, .slice C p q, .slice L ln lc], rfl, rfl, HY.out _ (by simp only [setCell_size]; omega) (fun _ _ _ => rfl), HB.out⟩
    · have HO : Hid (decP s = (zeroC, (l + 1 : Int), 1, 3)) := by show _ = _; unfold decP; rw [if_neg HL.out, HN.out]; simp only []; rw [if_neg hr0]
      have wl : IntKind.i64.wrap ((l : Int) + 1) = (l : Int) + 1 := IntWalk.i64_in _ (by omega)
      have t1 : (r == []) = false := by simpa using hr0
      have t2 : (r != []) = true := by simpa using hr0
      have t3 : r.isEmpty = false := by simpa using hr0
      have t4 : ¬ [] = r := fun e => hr0 e.symm
      go_wp2_with fail
      clear qr t1 t2 t3 t4
      refine wp_region_held_drew (S := fun W => W.cell? ⟨g, 1, none⟩ = some (.int .i64 (l : Int))) (by kernel_rfl) (by show _ = _; rw [Blk.cell (Blk.drew HRd.out)]; rfl) (fun hH => ?_)
      refine wpAnyH_take (i := 0) (oi := ⟨_, _, _, _, _, _⟩) (v := ?_) rfl (by kernel_rfl) (by kernel_rfl) (by kernel_rfl) (fun _ _ _ h => door_put (by decide) (by decide) (by decide) h) (Or.inl ⟨by rfl, ?_⟩) hH ?_
      rotate_left
      · (intro w hSw; (try dsimp only at hSw); go_simp; try (with_reducible rfl))
      simp only [Act.put, List.setIfInBounds_toArray, List.set_cons_zero, List.set_cons_succ]
      refine wpAnyH_take (i := 1) (oi := ⟨_, _, _, _, _, _⟩) (v := ?_) rfl (by kernel_rfl) (by kernel_rfl) (by kernel_rfl) (fun _ _ _ h => door_put (by decide) (by decide) (by decide) h) (Or.inl ⟨by rfl, ?_⟩) hH ?_
      rotate_left
      · (intro w hSw; (try dsimp only at hSw); go_simp; try (with_reducible rfl))
      simp only [Act.put, List.setIfInBounds_toArray, List.set_cons_zero, List.set_cons_succ]
      refine wpAnyH_take (i := 2) (oi := ⟨_, _, _, _, _, _⟩) (v := ?_) rfl (by kernel_rfl) (by kernel_rfl) (by kernel_rfl) (fun _ _ _ h => door_put (by decide) (by decide) (by decide) h) (Or.inl ⟨by rfl, ?_⟩) hH ?_
      rotate_left
      · (intro w hSw; (try dsimp only at hSw); go_simp; try (with_reducible rfl))
      simp only [Act.put, List.setIfInBounds_toArray, List.set_cons_zero, List.set_cons_succ]
      refine wpAnyH_take (i := 3) (oi := ⟨_, _, _, _, _, _⟩) (v := ?_) rfl (by kernel_rfl) (by kernel_rfl) (by kernel_rfl) (fun _ _ _ h => door_put (by decide) (by decide) (by decide) h) (Or.inl ⟨by rfl, ?_⟩) hH ?_
      rotate_left
      · (intro w hSw; (try dsimp only at hSw); go_simp; try (with_reducible rfl))
      simp only [Act.put, List.setIfInBounds_toArray, List.set_cons_zero, List.set_cons_succ]
      refine wpAnyH_take (i := 4) (oi := ⟨_, _, _, _, _, _⟩) (v := ?_) rfl (by kernel_rfl) (by kernel_rfl) (by kernel_rfl) (fun _ _ _ h => door_put (by decide) (by decide) (by decide) h) (Or.inl ⟨by rfl, ?_⟩) hH ?_
      rotate_left
      · (intro w hSw; (try dsimp only at hSw); go_simp; try (with_reducible rfl))
      simp only [Act.put, List.setIfInBounds_toArray, List.set_cons_zero, List.set_cons_succ]
      refine wpAnyH_take (i := 5) (oi := ⟨_, _, _, _, _, _⟩) (v := ?_) rfl (by kernel_rfl) (by kernel_rfl) (by kernel_rfl) (fun _ _ _ h => door_put (by decide) (by decide) (by decide) h) (Or.inl ⟨by rfl, ?_⟩) hH ?_
      rotate_left
      · (intro w hSw; (try dsimp only at hSw); go_simp; try (with_reducible rfl))
      simp only [Act.put, List.setIfInBounds_toArray, List.set_cons_zero, List.set_cons_succ]
      refine wpAnyH_take (i := 6) (oi := ⟨_, _, _, _, _, _⟩) (v := ?_) rfl (by kernel_rfl) (by kernel_rfl) (by kernel_rfl) (fun _ _ _ h => door_put (by decide) (by decide) (by decide) h) (Or.inl ⟨by rfl, ?_⟩) hH ?_
      rotate_left
      · (intro w hSw; (try dsimp only at hSw); go_simp; try (with_reducible rfl))
      simp only [Act.put, List.setIfInBounds_toArray, List.set_cons_zero, List.set_cons_succ]
      replace H2 := Lib.hid H2.out.drew
      replace H3 := Lib.hid H3.out.drew
      replace H4 := Lib.hid H4.out.drew
      replace HB := Lib.hid HB.out.drew
      replace HRd := Lib.hid (show Rd g r l V.drew from HRd.out)
      clear HY HE
      generalize V.drew = V0 at *
      refine wpAnyH_ready (rs := [7]) (by kernel_rfl) (by simp) ?_
      refine AllReadyH.cons (o := ⟨_, _, _, _, _, _⟩) rfl (fun K hK => ?_) AllReadyH.nil
      refine step_store rfl _ _ 42 rfl w.heap.size 42 #[.int .i64 x.prec, .int .i64 x.order, .slice A n c, .slice B m dd, .slice C p q, .slice L ln lc] #[.int .i64 0, .int .i64 0, .slice none 0 0, .slice none 0 0, .slice none 0 0, .slice none 0 0] rfl rfl H2.out (by kernel_rfl) rfl (by simp [Value.oneCell']) ?_
      intro V1 hV hT
      replace H2 := Lib.hid hV
      replace H3 := Lib.hid (hT.blk H3.out (show g3 ≠ w.heap.size by omega))
      replace H4 := Lib.hid (hT.blk H4.out (show g4 ≠ w.heap.size by omega))
      replace HRd : Hid (Rd g r l V1) := hT.blk HRd.out (show g ≠ w.heap.size by omega)
      replace HB := Lib.hid (hT.below HB.out (show w.heap.size ≤ w.heap.size by omega))
      have hTs := Nat.le_of_eq hT.size
      have hTt := Nat.le_of_eq hT.size.symm
      clear hV hT
      refine hK.out _ _ (by show _ = _; rw [Blk.cell HRd.out]; rfl) (fun hH => ?_)
      clear hK K
      simp only [Act.put]
      refine wpAnyH_ready (rs := [8]) (by kernel_rfl) (by simp) ?_
      refine AllReadyH.cons (o := ⟨_, _, _, _, _, _⟩) rfl (fun K hK => ?_) AllReadyH.nil
      refine step_store rfl _ _ 48 rfl g3 48 #[.int .i64 0, .int .i64 0] #[.int .i64 ((l : Int) + 1), .int .i64 1] rfl rfl H3.out (by kernel_rfl) rfl (by simp [Value.oneCell']) ?_
      intro V2 hV hT
      replace H2 := Lib.hid (hT.blk H2.out (show w.heap.size ≠ g3 by omega))
      replace H3 := Lib.hid hV
      replace H4 := Lib.hid (hT.blk H4.out (show g4 ≠ g3 by omega))
      replace HRd : Hid (Rd g r l V2) := hT.blk HRd.out (show g ≠ g3 by omega)
      replace HB := Lib.hid (hT.below HB.out (show w.heap.size ≤ g3 by omega))
      have hTs := Nat.le_of_eq hT.size
      have hTt := Nat.le_of_eq hT.size.symm
      clear hV hT
      refine hK.out _ _ (by show _ = _; rw [Blk.cell HRd.out]; rfl) (fun hH => ?_)
      clear hK K
      simp only [Act.put]
      refine wpAnyH_ready (rs := [9]) (by kernel_rfl) (by simp) ?_
      refine AllReadyH.cons (o := ⟨_, _, _, _, _, _⟩) rfl (fun K hK => ?_) AllReadyH.nil
      have c8 : V2.cell? ⟨g4, 0, none⟩ = some (.int .i64 0) := by rw [Blk.cell H4.out]; rfl
      have f8 : V2.frozen? ⟨g4, 0, none⟩ = false := H4.out.frozen 0
      have hV : Blk (V2.setCell ⟨g4, 0, none⟩ (.int .i64 3)) g4 26 #[.int .i64 3] := H4.out.set_ 0 (.int .i64 3)
      have hT : Turned g4 V2 (V2.setCell ⟨g4, 0, none⟩ (.int .i64 3)) := ⟨rfl, rfl, rfl, setCell_size _ _ _, fun b hb => Below.heap_setCell _ _ _ _ hb⟩
      replace H2 := Lib.hid (hT.blk H2.out (show w.heap.size ≠ g4 by omega))
      replace H3 := Lib.hid (hT.blk H3.out (show g3 ≠ g4 by omega))
      replace H4 := Lib.hid hV
      replace HRd : Hid (Rd g r l (V2.setCell ⟨g4, 0, none⟩ (.int .i64 3))) := hT.blk HRd.out (show g ≠ g4 by omega)
      replace HB := Lib.hid (hT.below HB.out (show w.heap.size ≤ g4 by omega))
      have hTs := Nat.le_of_eq hT.size
      have hTt := Nat.le_of_eq hT.size.symm
      clear hV hT
      go_simp
      clear c8 f8
      generalize (V2.setCell ⟨g4, 0, none⟩ (.int .i64 3)) = V3 at *
      refine hK.out _ _ (by show _ = _; rw [Blk.cell HRd.out]; rfl) (fun hH => ?_)
      clear hK K
      refine wpAnyH_done (by kernel_rfl) ?_ _
      go_wp2_with fail
      refine leaves_cons (f := 88) (args := #[.pointer (some ⟨w.heap.size, 0, none⟩), .pointer (some ⟨g3, 0, none⟩), .pointer (some ⟨g4, 0, none⟩)]) (by simp) (by simp [go_sem]) ?_
      refine (catch_idle _ _ _ _).mono ?_
      rintro e u' w7 ⟨rfl, rfl, rfl⟩
      rw [HO.out]
      exact ⟨_, resDec rfl rfl rfl H2.out H3.out H4.out, [.int .i64 0, .int .i64 0, .slice none 0 0, .slice none 0 0, .slice none 0 0, .slice none 0 0], rfl, rfl, rc_zero _, HB.out⟩

theorem decode_any (s : List UInt8) (w : World) (hs : s.length ≤ 1000000) (he : Ev w.heap.size w) :
    Calls Tryz.prog 21 #[.string ⟨s.toArray⟩] w (RetDec (decP s) w) := by
  by_cases h : 65536 < s.length
  · have ho : decP s = (zeroC, 0, 0, 5) := by unfold decP; rw [if_pos h]
    rw [ho]
    exact decode_long s w h hs
  · exact decode_short s w h he

end Go.Proofs.YtekajoifgdpmlaaGreatDoor
