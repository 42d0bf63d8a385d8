/- Crash of the reference's disk: the other cases, and all together. No condition. -/
import Derived.Test.YtaidpmflfimkgaaT11
namespace Go.Proofs.Ytaidpmflfimkgaa
open Go.RowKit

set_option maxRecDepth 100000 in
set_option maxHeartbeats 2000000 in
theorem rcrash_BC {B g : Nat} {s : DS} {v0 v1 : Value} (k0 : Nat) (hk0 : s.s0 + k0 ≤ s.b0.length) (hn0 : DS.keepN k0 s.s0 s.b0.length = s.s0 + k0) (k1 : Nat) (hk1 : s.b1.length < s.s1 + k1) (hkm1 : (k1 : Int) ≤ 9223372036854775807) (hn1 : DS.keepN k1 s.s1 s.b1.length = s.b1.length) (w : World) (h : RD w B g s v0 v1) :
    Calls Try.prog 23 #[.pointer (some ⟨g, 0, none⟩), .agg #[.int .i64 k0, .int .i64 k1]] w (UnitPostR w B g v0 v1 (s.crash k0 k1)) := by
  have hlt := lt_of_block h.blk
  obtain ⟨A0, ca0, rfl⟩ := own_len h.o0
  obtain ⟨A1, ca1, rfl⟩ := own_len h.o1
  have fA : Frame w (w.alloc (.cells #[.int .i64 k0, .int .i64 k1] 29)) [] := (Frame.refl w []).alloc _
  have kA : (w.alloc (.cells #[.int .i64 k0, .int .i64 k1] 29)).heap[w.heap.size]? = some (.cells #[.int .i64 k0, .int .i64 k1] 29 (0, 0)) := heap_alloc_new _ _
  have tA := h.toRC.frame fA
  obtain ⟨WA, hWA⟩ : ∃ WA, WA = w.alloc (.cells #[.int .i64 k0, .int .i64 k1] 29) := ⟨_, rfl⟩
  rw [← hWA] at fA kA tA
  obtain ⟨c0, c1, c2, c3, c4, c5, fz⟩ := tA.cells
  have cA0 : WA.cell? ⟨w.heap.size, 0, none⟩ = some (.int .i64 k0) := cell_of_row _ _ _ _ _ _ kA
  have cA1 : WA.cell? ⟨w.heap.size, 1, none⟩ = some (.int .i64 k1) := cell_of_row _ _ _ _ _ _ kA
  have HW := Lib.hid hWA
  have H := Lib.hid h
  have hne : ¬ g = w.heap.size := by omega
  have hne' : ¬ w.heap.size = g := by omega
  have l0 := h.l0
  have l1 := h.l1
  have m0 := h.m0
  have m1 := h.m1
  have cc0 : s.s0 + k0 ≤ ca0 := Nat.le_trans hk0 (own_cap h.o0)
  have kk0 : (k0 : Int) ≤ (s.b0.length : Int) - (s.s0 : Int) := by omega
  have cc1 : s.b1.length ≤ ca1 := own_cap h.o1
  have kk1 : (s.b1.length : Int) - (s.s1 : Int) < (k1 : Int) := by omega
  have Hn0 := Lib.hid hn0
  have Hn1 := Lib.hid hn1
  clear kA h tA hn0 hn1
  go_enter Try.func23, Try.ntmps23
  go_wp2_with fail
  rw [← HW.out]
  clear hWA
  refine wp_loop_rounds 3 ?_
  rw [rounds_succ]
  go_wp2_with fail
  go_quiet (fail)
  go_wp2_with fail
  go_region
  go_wp2_with fail
  rw [show ((s.s0 : Int) + (k0 : Int)) = ((s.s0 + k0 : Nat) : Int) from by omega]
  go_region
  go_wp2_with fail
  rw [rounds_succ]
  go_wp2_with fail
  go_quiet (fail)
  go_wp2_with fail
  go_region
  go_wp2_with fail
  rw [show ((s.s1 : Int) + ((s.b1.length : Int) - (s.s1 : Int))) = (s.b1.length : Int) from by omega]
  go_region
  go_wp2_with fail
  rw [rounds_succ]
  go_wp2_with fail
  go_end0
  refine ⟨rfl, ?_⟩
  exact rcrash_fin k0 k1 (s.s0 + k0) s.b1.length _ _ H.out fA Hn0.out Hn1.out

set_option maxRecDepth 100000 in
set_option maxHeartbeats 2000000 in
theorem rcrash_CA {B g : Nat} {s : DS} {v0 v1 : Value} (k0 : Nat) (hk0 : s.b0.length < s.s0 + k0) (hkm0 : (k0 : Int) ≤ 9223372036854775807) (hn0 : DS.keepN k0 s.s0 s.b0.length = s.b0.length) (k1 : Int) (hk1 : k1 < 0) (hn1 : DS.keepN k1 s.s1 s.b1.length = s.s1) (w : World) (h : RD w B g s v0 v1) :
    Calls Try.prog 23 #[.pointer (some ⟨g, 0, none⟩), .agg #[.int .i64 k0, .int .i64 k1]] w (UnitPostR w B g v0 v1 (s.crash k0 k1)) := by
  have hlt := lt_of_block h.blk
  obtain ⟨A0, ca0, rfl⟩ := own_len h.o0
  obtain ⟨A1, ca1, rfl⟩ := own_len h.o1
  have fA : Frame w (w.alloc (.cells #[.int .i64 k0, .int .i64 k1] 29)) [] := (Frame.refl w []).alloc _
  have kA : (w.alloc (.cells #[.int .i64 k0, .int .i64 k1] 29)).heap[w.heap.size]? = some (.cells #[.int .i64 k0, .int .i64 k1] 29 (0, 0)) := heap_alloc_new _ _
  have tA := h.toRC.frame fA
  obtain ⟨WA, hWA⟩ : ∃ WA, WA = w.alloc (.cells #[.int .i64 k0, .int .i64 k1] 29) := ⟨_, rfl⟩
  rw [← hWA] at fA kA tA
  obtain ⟨c0, c1, c2, c3, c4, c5, fz⟩ := tA.cells
  have cA0 : WA.cell? ⟨w.heap.size, 0, none⟩ = some (.int .i64 k0) := cell_of_row _ _ _ _ _ _ kA
  have cA1 : WA.cell? ⟨w.heap.size, 1, none⟩ = some (.int .i64 k1) := cell_of_row _ _ _ _ _ _ kA
  have HW := Lib.hid hWA
  have H := Lib.hid h
  have hne : ¬ g = w.heap.size := by omega
  have hne' : ¬ w.heap.size = g := by omega
  have l0 := h.l0
  have l1 := h.l1
  have m0 := h.m0
  have m1 := h.m1
  have cc0 : s.b0.length ≤ ca0 := own_cap h.o0
  have kk0 : (s.b0.length : Int) - (s.s0 : Int) < (k0 : Int) := by omega
  have cc1 : s.s1 ≤ ca1 := Nat.le_trans h.l1 (own_cap h.o1)
  have Hn0 := Lib.hid hn0
  have Hn1 := Lib.hid hn1
  clear kA h tA hn0 hn1
  go_enter Try.func23, Try.ntmps23
  go_wp2_with fail
  rw [← HW.out]
  clear hWA
  refine wp_loop_rounds 3 ?_
  rw [rounds_succ]
  go_wp2_with fail
  go_quiet (fail)
  go_wp2_with fail
  go_region
  go_wp2_with fail
  rw [show ((s.s0 : Int) + ((s.b0.length : Int) - (s.s0 : Int))) = (s.b0.length : Int) from by omega]
  go_region
  go_wp2_with fail
  rw [rounds_succ]
  go_wp2_with fail
  go_quiet (fail)
  go_wp2_with fail
  go_region
  go_wp2_with fail
  go_region
  go_wp2_with fail
  rw [rounds_succ]
  go_wp2_with fail
  go_end0
  refine ⟨rfl, ?_⟩
  exact rcrash_fin k0 k1 s.b0.length s.s1 _ _ H.out fA Hn0.out Hn1.out

set_option maxRecDepth 100000 in
set_option maxHeartbeats 2000000 in
theorem rcrash_CB {B g : Nat} {s : DS} {v0 v1 : Value} (k0 : Nat) (hk0 : s.b0.length < s.s0 + k0) (hkm0 : (k0 : Int) ≤ 9223372036854775807) (hn0 : DS.keepN k0 s.s0 s.b0.length = s.b0.length) (k1 : Nat) (hk1 : s.s1 + k1 ≤ s.b1.length) (hn1 : DS.keepN k1 s.s1 s.b1.length = s.s1 + k1) (w : World) (h : RD w B g s v0 v1) :
    Calls Try.prog 23 #[.pointer (some ⟨g, 0, none⟩), .agg #[.int .i64 k0, .int .i64 k1]] w (UnitPostR w B g v0 v1 (s.crash k0 k1)) := by
  have hlt := lt_of_block h.blk
  obtain ⟨A0, ca0, rfl⟩ := own_len h.o0
  obtain ⟨A1, ca1, rfl⟩ := own_len h.o1
  have fA : Frame w (w.alloc (.cells #[.int .i64 k0, .int .i64 k1] 29)) [] := (Frame.refl w []).alloc _
  have kA : (w.alloc (.cells #[.int .i64 k0, .int .i64 k1] 29)).heap[w.heap.size]? = some (.cells #[.int .i64 k0, .int .i64 k1] 29 (0, 0)) := heap_alloc_new _ _
  have tA := h.toRC.frame fA
  obtain ⟨WA, hWA⟩ : ∃ WA, WA = w.alloc (.cells #[.int .i64 k0, .int .i64 k1] 29) := ⟨_, rfl⟩
  rw [← hWA] at fA kA tA
  obtain ⟨c0, c1, c2, c3, c4, c5, fz⟩ := tA.cells
  have cA0 : WA.cell? ⟨w.heap.size, 0, none⟩ = some (.int .i64 k0) := cell_of_row _ _ _ _ _ _ kA
  have cA1 : WA.cell? ⟨w.heap.size, 1, none⟩ = some (.int .i64 k1) := cell_of_row _ _ _ _ _ _ kA
  have HW := Lib.hid hWA
  have H := Lib.hid h
  have hne : ¬ g = w.heap.size := by omega
  have hne' : ¬ w.heap.size = g := by omega
  have l0 := h.l0
  have l1 := h.l1
  have m0 := h.m0
  have m1 := h.m1
  have cc0 : s.b0.length ≤ ca0 := own_cap h.o0
  have kk0 : (s.b0.length : Int) - (s.s0 : Int) < (k0 : Int) := by omega
  have cc1 : s.s1 + k1 ≤ ca1 := Nat.le_trans hk1 (own_cap h.o1)
  have kk1 : (k1 : Int) ≤ (s.b1.length : Int) - (s.s1 : Int) := by omega
  have Hn0 := Lib.hid hn0
  have Hn1 := Lib.hid hn1
  clear kA h tA hn0 hn1
  go_enter Try.func23, Try.ntmps23
  go_wp2_with fail
  rw [← HW.out]
  clear hWA
  refine wp_loop_rounds 3 ?_
  rw [rounds_succ]
  go_wp2_with fail
  go_quiet (fail)
  go_wp2_with fail
  go_region
  go_wp2_with fail
  rw [show ((s.s0 : Int) + ((s.b0.length : Int) - (s.s0 : Int))) = (s.b0.length : Int) from by omega]
  go_region
  go_wp2_with fail
  rw [rounds_succ]
  go_wp2_with fail
  go_quiet (fail)
  go_wp2_with fail
  go_region
  go_wp2_with fail
  rw [show ((s.s1 : Int) + (k1 : Int)) = ((s.s1 + k1 : Nat) : Int) from by omega]
  go_region
  go_wp2_with fail
  rw [rounds_succ]
  go_wp2_with fail
  go_end0
  refine ⟨rfl, ?_⟩
  exact rcrash_fin k0 k1 s.b0.length (s.s1 + k1) _ _ H.out fA Hn0.out Hn1.out

set_option maxRecDepth 100000 in
set_option maxHeartbeats 2000000 in
theorem rcrash_CC {B g : Nat} {s : DS} {v0 v1 : Value} (k0 : Nat) (hk0 : s.b0.length < s.s0 + k0) (hkm0 : (k0 : Int) ≤ 9223372036854775807) (hn0 : DS.keepN k0 s.s0 s.b0.length = s.b0.length) (k1 : Nat) (hk1 : s.b1.length < s.s1 + k1) (hkm1 : (k1 : Int) ≤ 9223372036854775807) (hn1 : DS.keepN k1 s.s1 s.b1.length = s.b1.length) (w : World) (h : RD w B g s v0 v1) :
    Calls Try.prog 23 #[.pointer (some ⟨g, 0, none⟩), .agg #[.int .i64 k0, .int .i64 k1]] w (UnitPostR w B g v0 v1 (s.crash k0 k1)) := by
  have hlt := lt_of_block h.blk
  obtain ⟨A0, ca0, rfl⟩ := own_len h.o0
  obtain ⟨A1, ca1, rfl⟩ := own_len h.o1
  have fA : Frame w (w.alloc (.cells #[.int .i64 k0, .int .i64 k1] 29)) [] := (Frame.refl w []).alloc _
  have kA : (w.alloc (.cells #[.int .i64 k0, .int .i64 k1] 29)).heap[w.heap.size]? = some (.cells #[.int .i64 k0, .int .i64 k1] 29 (0, 0)) := heap_alloc_new _ _
  have tA := h.toRC.frame fA
  obtain ⟨WA, hWA⟩ : ∃ WA, WA = w.alloc (.cells #[.int .i64 k0, .int .i64 k1] 29) := ⟨_, rfl⟩
  rw [← hWA] at fA kA tA
  obtain ⟨c0, c1, c2, c3, c4, c5, fz⟩ := tA.cells
  have cA0 : WA.cell? ⟨w.heap.size, 0, none⟩ = some (.int .i64 k0) := cell_of_row _ _ _ _ _ _ kA
  have cA1 : WA.cell? ⟨w.heap.size, 1, none⟩ = some (.int .i64 k1) := cell_of_row _ _ _ _ _ _ kA
  have HW := Lib.hid hWA
  have H := Lib.hid h
  have hne : ¬ g = w.heap.size := by omega
  have hne' : ¬ w.heap.size = g := by omega
  have l0 := h.l0
  have l1 := h.l1
  have m0 := h.m0
  have m1 := h.m1
  have cc0 : s.b0.length ≤ ca0 := own_cap h.o0
  have kk0 : (s.b0.length : Int) - (s.s0 : Int) < (k0 : Int) := by omega
  have cc1 : s.b1.length ≤ ca1 := own_cap h.o1
  have kk1 : (s.b1.length : Int) - (s.s1 : Int) < (k1 : Int) := by omega
  have Hn0 := Lib.hid hn0
  have Hn1 := Lib.hid hn1
  clear kA h tA hn0 hn1
  go_enter Try.func23, Try.ntmps23
  go_wp2_with fail
  rw [← HW.out]
  clear hWA
  refine wp_loop_rounds 3 ?_
  rw [rounds_succ]
  go_wp2_with fail
  go_quiet (fail)
  go_wp2_with fail
  go_region
  go_wp2_with fail
  rw [show ((s.s0 : Int) + ((s.b0.length : Int) - (s.s0 : Int))) = (s.b0.length : Int) from by omega]
  go_region
  go_wp2_with fail
  rw [rounds_succ]
  go_wp2_with fail
  go_quiet (fail)
  go_wp2_with fail
  go_region
  go_wp2_with fail
  rw [show ((s.s1 : Int) + ((s.b1.length : Int) - (s.s1 : Int))) = (s.b1.length : Int) from by omega]
  go_region
  go_wp2_with fail
  rw [rounds_succ]
  go_wp2_with fail
  go_end0
  refine ⟨rfl, ?_⟩
  exact rcrash_fin k0 k1 s.b0.length s.b1.length _ _ H.out fA Hn0.out Hn1.out

theorem rcrash_any {B g : Nat} {s : DS} {v0 v1 : Value} (k0 k1 : Int) (w : World) (h : RD w B g s v0 v1) (hk0 : k0 ≤ 9223372036854775807) (hk1 : k1 ≤ 9223372036854775807) :
    Calls Try.prog 23 #[.pointer (some ⟨g, 0, none⟩), .agg #[.int .i64 k0, .int .i64 k1]] w (UnitPostR w B g v0 v1 (s.crash k0 k1)) := by
  rcases keep_ways k0 s.s0 s.b0.length h.l0 with ⟨a, b⟩ | ⟨m, rfl, a, b⟩ | ⟨m, rfl, a, b⟩
  · rcases keep_ways k1 s.s1 s.b1.length h.l1 with ⟨c, d⟩ | ⟨n, rfl, c, d⟩ | ⟨n, rfl, c, d⟩
    · exact rcrash_AA k0 a b k1 c d w h
    · exact rcrash_AB k0 a b n c d w h
    · exact rcrash_AC k0 a b n c hk1 d w h
  · rcases keep_ways k1 s.s1 s.b1.length h.l1 with ⟨c, d⟩ | ⟨n, rfl, c, d⟩ | ⟨n, rfl, c, d⟩
    · exact rcrash_BA m a b k1 c d w h
    · exact rcrash_BB m a b n c d w h
    · exact rcrash_BC m a b n c hk1 d w h
  · rcases keep_ways k1 s.s1 s.b1.length h.l1 with ⟨c, d⟩ | ⟨n, rfl, c, d⟩ | ⟨n, rfl, c, d⟩
    · exact rcrash_CA m a hk0 b k1 c d w h
    · exact rcrash_CB m a hk0 b n c d w h
    · exact rcrash_CC m a hk0 b n c hk1 d w h
end Go.Proofs.Ytaidpmflfimkgaa
