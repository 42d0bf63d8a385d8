/- Contracts of Crash of the reference's disk, by cases of the two numbers. No condition. -/
import Derived.Test.YtaidpmflfimkgaaT10
namespace Go.Proofs.Ytaidpmflfimkgaa
open Go.RowKit

section
variable {w w' : World} {B g : Nat} {dn : Bool} {l s0 s1 : Int} {v0 v1 : Value} {b0 b1 : List UInt8}
theorem RC.cells (h : RC w B g dn l v0 b0 s0 v1 b1 s1) : w.cell? ⟨g, 0, none⟩ = some v0 ∧ w.cell? ⟨g, 1, none⟩ = some v1 ∧ w.cell? ⟨g, 2, none⟩ = some (.int .i64 s0) ∧ w.cell? ⟨g, 3, none⟩ = some (.int .i64 s1) ∧
    w.cell? ⟨g, 4, none⟩ = some (.bool dn) ∧ w.cell? ⟨g, 5, none⟩ = some (.int .i64 l) ∧ ∀ i, w.frozen? ⟨g, i, none⟩ = false :=
  ⟨cell_of_row _ _ _ _ _ _ h.blk, cell_of_row _ _ _ _ _ _ h.blk, cell_of_row _ _ _ _ _ _ h.blk, cell_of_row _ _ _ _ _ _ h.blk, cell_of_row _ _ _ _ _ _ h.blk, cell_of_row _ _ _ _ _ _ h.blk, fun _ => frozen_of_row _ _ _ _ _ h.blk⟩
theorem RC.frame (h : RC w B g dn l v0 b0 s0 v1 b1 s1) (hf : Frame w w' []) : RC w' B g dn l v0 b0 s0 v1 b1 s1 :=
  ⟨hf.heap h.blk (by simp), own_frame h.o0 hf (by simp), own_frame h.o1 hf (by simp), h.hB⟩
theorem own_cap {e : TypeId} {A : Option Addr} {n c size : Nat} {xs : List Value} (h : w.ownsRow B e size (.slice A n c) n xs) : n ≤ c := by
  rcases h.2 with ⟨hv, h0⟩ | ⟨g, cap, cur, hv, hb, hg, hnc, _⟩
  · simp only [Value.slice.injEq] at hv
    omega
  · simp only [Value.slice.injEq] at hv
    omega
theorem own_cut {e : TypeId} {A : Option Addr} {n c m : Nat} (l : List UInt8) (h : w.ownsRow B e 1 (.slice A n c) l.length (bv l)) (hn : n = l.length) (hm : m ≤ l.length) : w.ownsRow B e 1 (.slice A m c) (l.take m).length (bv (l.take m)) := by
  subst hn
  refine ⟨by simp [bv_length], ?_⟩
  rcases h.2 with ⟨hv, h0⟩ | ⟨g, cap, cur, hv, hb, hg, hnc, hcm, hcs, ht⟩
  · simp only [Value.slice.injEq] at hv
    obtain ⟨rfl, _, rfl⟩ := hv
    obtain rfl : m = 0 := by omega
    exact .inl ⟨rfl, by simp⟩
  · simp only [Value.slice.injEq] at hv
    obtain ⟨rfl, _, rfl⟩ := hv
    refine .inr ⟨g, c, cur, by rw [List.length_take]; congr 1; omega, hb, hg, by rw [List.length_take]; omega, hcm, hcs, ?_⟩
    rw [List.length_take, bv, List.map_take, show l.map (fun c => Value.int .u8 c.toNat) = bv l from rfl, ← ht, List.take_take]
    congr 1
    omega
end

/-- The three ways in which a number of bytes is kept. -/
theorem keep_ways (k : Int) (s n : Nat) (h : s ≤ n) : (k < 0 ∧ DS.keepN k s n = s) ∨ (∃ m : Nat, k = m ∧ s + m ≤ n ∧ DS.keepN k s n = s + m) ∨ (∃ m : Nat, k = m ∧ n < s + m ∧ DS.keepN k s n = n) := by
  unfold DS.keepN
  by_cases h0 : k < 0
  · exact .inl ⟨h0, by omega⟩
  · obtain ⟨m, rfl⟩ := Int.eq_ofNat_of_zero_le (show 0 ≤ k by omega)
    by_cases h1 : s + m ≤ n
    · exact .inr (.inl ⟨m, rfl, h1, by omega⟩)
    · exact .inr (.inr ⟨m, rfl, by omega, by omega⟩)

/-- The reference's disk behind all stores of a crash. -/
theorem rcrash_end {w WA : World} {B g : Nat} {s : DS} {A0 A1 : Option Addr} {ca0 ca1 : Nat} (k0 k1 : Int) (r0 r1 : Nat) (h : RD w B g s (.slice A0 s.b0.length ca0) (.slice A1 s.b1.length ca1)) (fA : Frame w WA []) (h0 : DS.keepN k0 s.s0 s.b0.length = r0) (h1 : DS.keepN k1 s.s1 s.b1.length = r1) :
    RDPost w B g (.slice A0 s.b0.length ca0) (.slice A1 s.b1.length ca1) (s.crash k0 k1) ((((((WA.setCell ⟨g, 2, none⟩ (.int .i64 r0)).setCell ⟨g, 0, none⟩ (.slice A0 r0 ca0)).setCell ⟨g, 3, none⟩ (.int .i64 r1)).setCell ⟨g, 1, none⟩ (.slice A1 r1 ca1)).setCell ⟨g, 4, none⟩ (.bool true)).setCell ⟨g, 5, none⟩ (.int .i64 0)) := by
  have hr0 : r0 ≤ s.b0.length := h0 ▸ keepN_le k0 s.s0 _ h.l0
  have hr1 : r1 ≤ s.b1.length := h1 ▸ keepN_le k1 s.s1 _ h.l1
  have t1 := (h.toRC.frame fA).set2 r0
  have t2 := t1.row0 (Frame.refl _ _) (own_cut s.b0 t1.o0 rfl hr0)
  have t3 := t2.set3 r1
  have t4 := t3.row1 (Frame.refl _ _) (own_cut s.b1 t3.o1 rfl hr1)
  have t5 := (t4.set4 true).set5 0
  have q0 : (s.crash k0 k1).s0 = r0 := h0
  have q1 : (s.crash k0 k1).s1 = r1 := h1
  have q2 : (s.crash k0 k1).b0 = s.b0.take r0 := congrArg (fun n => s.b0.take n) h0
  have q3 : (s.crash k0 k1).b1 = s.b1.take r1 := congrArg (fun n => s.b1.take n) h1
  refine ⟨.slice A0 r0 ca0, .slice A1 r1 ca1, ⟨?_, ?_, ?_, ?_, ?_, Nat.zero_le _⟩, ?_, ?_⟩
  · rw [q0, q1, q2, q3]
    exact t5
  · rw [q0, q2, List.length_take]; omega
  · rw [q1, q3, List.length_take]; omega
  · rw [q2]; exact Nat.le_trans (List.length_take_le' _ _) h.m0
  · rw [q3]; exact Nat.le_trans (List.length_take_le' _ _) h.m1
  · exact ((((((fA.sub [g]).set _ _ (by simp)).set _ _ (by simp)).set _ _ (by simp)).set _ _ (by simp)).set _ _ (by simp)).set _ _ (by simp)
  · intro k hk
    simp only [foot, List.mem_cons, List.mem_append, Option.mem_toList] at hk ⊢
    rcases hk with hk | hk | hk
    · exact .inl (.inl hk)
    · refine .inl (.inr (.inl ?_))
      cases A0 <;> exact hk
    · refine .inl (.inr (.inr ?_))
      cases A1 <;> exact hk
theorem setCell_drewN (w : World) (n : Nat) (a : Addr) (v : Value) : (w.drewN n).setCell a v = (w.setCell a v).drewN n := rfl
theorem RDPost.drewN {w w1 : World} {B g : Nat} {v0 v1 : Value} {s : DS} (h : RDPost w B g v0 v1 s w1) (n : Nat) : RDPost w B g v0 v1 s (w1.drewN n) := by
  obtain ⟨u0, u1, t, f, hk⟩ := h
  exact ⟨u0, u1, ⟨⟨t.blk, t.o0, t.o1, t.hB⟩, t.l0, t.l1, t.m0, t.m1, t.ml⟩, f.drewN n, hk⟩
theorem RDPost.drew {w w1 : World} {B g : Nat} {v0 v1 : Value} {s : DS} (h : RDPost w B g v0 v1 s w1) : RDPost w B g v0 v1 s w1.drew := by
  obtain ⟨u0, u1, t, f, hk⟩ := h
  exact ⟨u0, u1, ⟨⟨t.blk, t.o0, t.o1, t.hB⟩, t.l0, t.l1, t.m0, t.m1, t.ml⟩, f.drew, hk⟩

theorem rcrash_fin {w WA : World} {B g : Nat} {s : DS} {A0 A1 : Option Addr} {ca0 ca1 : Nat} (k0 k1 : Int) (r0 r1 n m : Nat) (h : RD w B g s (.slice A0 s.b0.length ca0) (.slice A1 s.b1.length ca1)) (fA : Frame w WA []) (h0 : DS.keepN k0 s.s0 s.b0.length = r0) (h1 : DS.keepN k1 s.s1 s.b1.length = r1) :
    RDPost w B g (.slice A0 s.b0.length ca0) (.slice A1 s.b1.length ca1) (s.crash k0 k1) ((((((((WA.drewN n).setCell ⟨g, 2, none⟩ (.int .i64 r0)).setCell ⟨g, 0, none⟩ (.slice A0 r0 ca0)).drewN m).setCell ⟨g, 3, none⟩ (.int .i64 r1)).setCell ⟨g, 1, none⟩ (.slice A1 r1 ca1)).setCell ⟨g, 4, none⟩ (.bool true)).setCell ⟨g, 5, none⟩ (.int .i64 0)).drew :=
by
  simp only [setCell_drewN, World.drewN_drewN]
  exact ((rcrash_end k0 k1 r0 r1 h fA h0 h1).drewN _).drew

set_option maxRecDepth 100000 in
set_option maxHeartbeats 2000000 in
theorem rcrash_AA {B g : Nat} {s : DS} {v0 v1 : Value} (k0 : Int) (hk0 : k0 < 0) (hn0 : DS.keepN k0 s.s0 s.b0.length = s.s0) (k1 : Int) (hk1 : k1 < 0) (hn1 : DS.keepN k1 s.s1 s.b1.length = s.s1) (w : World) (h : RD w B g s v0 v1) :
    Calls Try.prog 23 #[.pointer (some ⟨g, 0, none⟩), .agg #[.int .i64 k0, .int .i64 k1]] w (UnitPostR w B g v0 v1 (s.crash k0 k1)) := by
  have hlt := lt_of_block h.blk
  obtain ⟨A0, ca0, rfl⟩ := own_len h.o0
  obtain ⟨A1, ca1, rfl⟩ := own_len h.o1
  have fA : Frame w (w.alloc (.cells #[.int .i64 k0, .int .i64 k1] 29)) [] := (Frame.refl w []).alloc _
  have kA : (w.alloc (.cells #[.int .i64 k0, .int .i64 k1] 29)).heap[w.heap.size]? = some (.cells #[.int .i64 k0, .int .i64 k1] 29 (0, 0)) := heap_alloc_new _ _
  have tA := h.toRC.frame fA
  obtain ⟨WA, hWA⟩ : ∃ WA, WA = w.alloc (.cells #[.int .i64 k0, .int .i64 k1] 29) := ⟨_, rfl⟩
  rw [← hWA] at fA kA tA
  obtain ⟨c0, c1, c2, c3, c4, c5, fz⟩ := tA.cells
  have cA0 : WA.cell? ⟨w.heap.size, 0, none⟩ = some (.int .i64 k0) := cell_of_row _ _ _ _ _ _ kA
  have cA1 : WA.cell? ⟨w.heap.size, 1, none⟩ = some (.int .i64 k1) := cell_of_row _ _ _ _ _ _ kA
  have HW := Lib.hid hWA
  have H := Lib.hid h
  have hne : ¬ g = w.heap.size := by omega
  have hne' : ¬ w.heap.size = g := by omega
  have l0 := h.l0
  have l1 := h.l1
  have m0 := h.m0
  have m1 := h.m1
  have cc0 : s.s0 ≤ ca0 := Nat.le_trans h.l0 (own_cap h.o0)
  have cc1 : s.s1 ≤ ca1 := Nat.le_trans h.l1 (own_cap h.o1)
  have Hn0 := Lib.hid hn0
  have Hn1 := Lib.hid hn1
  clear kA h tA hn0 hn1
  go_enter Try.func23, Try.ntmps23
  go_wp2_with fail
  rw [← HW.out]
  clear hWA
  refine wp_loop_rounds 3 ?_
  rw [rounds_succ]
  go_wp2_with fail
  go_quiet (fail)
  go_wp2_with fail
  go_region
  go_wp2_with fail
  go_region
  go_wp2_with fail
  rw [rounds_succ]
  go_wp2_with fail
  go_quiet (fail)
  go_wp2_with fail
  go_region
  go_wp2_with fail
  go_region
  go_wp2_with fail
  rw [rounds_succ]
  go_wp2_with fail
  go_end0
  refine ⟨rfl, ?_⟩
  exact rcrash_fin k0 k1 s.s0 s.s1 _ _ H.out fA Hn0.out Hn1.out

set_option maxRecDepth 100000 in
set_option maxHeartbeats 2000000 in
theorem rcrash_AB {B g : Nat} {s : DS} {v0 v1 : Value} (k0 : Int) (hk0 : k0 < 0) (hn0 : DS.keepN k0 s.s0 s.b0.length = s.s0) (k1 : Nat) (hk1 : s.s1 + k1 ≤ s.b1.length) (hn1 : DS.keepN k1 s.s1 s.b1.length = s.s1 + k1) (w : World) (h : RD w B g s v0 v1) :
    Calls Try.prog 23 #[.pointer (some ⟨g, 0, none⟩), .agg #[.int .i64 k0, .int .i64 k1]] w (UnitPostR w B g v0 v1 (s.crash k0 k1)) := by
  have hlt := lt_of_block h.blk
  obtain ⟨A0, ca0, rfl⟩ := own_len h.o0
  obtain ⟨A1, ca1, rfl⟩ := own_len h.o1
  have fA : Frame w (w.alloc (.cells #[.int .i64 k0, .int .i64 k1] 29)) [] := (Frame.refl w []).alloc _
  have kA : (w.alloc (.cells #[.int .i64 k0, .int .i64 k1] 29)).heap[w.heap.size]? = some (.cells #[.int .i64 k0, .int .i64 k1] 29 (0, 0)) := heap_alloc_new _ _
  have tA := h.toRC.frame fA
  obtain ⟨WA, hWA⟩ : ∃ WA, WA = w.alloc (.cells #[.int .i64 k0, .int .i64 k1] 29) := ⟨_, rfl⟩
  rw [← hWA] at fA kA tA
  obtain ⟨c0, c1, c2, c3, c4, c5, fz⟩ := tA.cells
  have cA0 : WA.cell? ⟨w.heap.size, 0, none⟩ = some (.int .i64 k0) := cell_of_row _ _ _ _ _ _ kA
  have cA1 : WA.cell? ⟨w.heap.size, 1, none⟩ = some (.int .i64 k1) := cell_of_row _ _ _ _ _ _ kA
  have HW := Lib.hid hWA
  have H := Lib.hid h
  have hne : ¬ g = w.heap.size := by omega
  have hne' : ¬ w.heap.size = g := by omega
  have l0 := h.l0
  have l1 := h.l1
  have m0 := h.m0
  have m1 := h.m1
  have cc0 : s.s0 ≤ ca0 := Nat.le_trans h.l0 (own_cap h.o0)
  have cc1 : s.s1 + k1 ≤ ca1 := Nat.le_trans hk1 (own_cap h.o1)
  have kk1 : (k1 : Int) ≤ (s.b1.length : Int) - (s.s1 : Int) := by omega
  have Hn0 := Lib.hid hn0
  have Hn1 := Lib.hid hn1
  clear kA h tA hn0 hn1
  go_enter Try.func23, Try.ntmps23
  go_wp2_with fail
  rw [← HW.out]
  clear hWA
  refine wp_loop_rounds 3 ?_
  rw [rounds_succ]
  go_wp2_with fail
  go_quiet (fail)
  go_wp2_with fail
  go_region
  go_wp2_with fail
  go_region
  go_wp2_with fail
  rw [rounds_succ]
  go_wp2_with fail
  go_quiet (fail)
  go_wp2_with fail
  go_region
  go_wp2_with fail
  rw [show ((s.s1 : Int) + (k1 : Int)) = ((s.s1 + k1 : Nat) : Int) from by omega]
  go_region
  go_wp2_with fail
  rw [rounds_succ]
  go_wp2_with fail
  go_end0
  refine ⟨rfl, ?_⟩
  exact rcrash_fin k0 k1 s.s0 (s.s1 + k1) _ _ H.out fA Hn0.out Hn1.out

set_option maxRecDepth 100000 in
set_option maxHeartbeats 2000000 in
theorem rcrash_AC {B g : Nat} {s : DS} {v0 v1 : Value} (k0 : Int) (hk0 : k0 < 0) (hn0 : DS.keepN k0 s.s0 s.b0.length = s.s0) (k1 : Nat) (hk1 : s.b1.length < s.s1 + k1) (hkm1 : (k1 : Int) ≤ 9223372036854775807) (hn1 : DS.keepN k1 s.s1 s.b1.length = s.b1.length) (w : World) (h : RD w B g s v0 v1) :
    Calls Try.prog 23 #[.pointer (some ⟨g, 0, none⟩), .agg #[.int .i64 k0, .int .i64 k1]] w (UnitPostR w B g v0 v1 (s.crash k0 k1)) := by
  have hlt := lt_of_block h.blk
  obtain ⟨A0, ca0, rfl⟩ := own_len h.o0
  obtain ⟨A1, ca1, rfl⟩ := own_len h.o1
  have fA : Frame w (w.alloc (.cells #[.int .i64 k0, .int .i64 k1] 29)) [] := (Frame.refl w []).alloc _
  have kA : (w.alloc (.cells #[.int .i64 k0, .int .i64 k1] 29)).heap[w.heap.size]? = some (.cells #[.int .i64 k0, .int .i64 k1] 29 (0, 0)) := heap_alloc_new _ _
  have tA := h.toRC.frame fA
  obtain ⟨WA, hWA⟩ : ∃ WA, WA = w.alloc (.cells #[.int .i64 k0, .int .i64 k1] 29) := ⟨_, rfl⟩
  rw [← hWA] at fA kA tA
  obtain ⟨c0, c1, c2, c3, c4, c5, fz⟩ := tA.cells
  have cA0 : WA.cell? ⟨w.heap.size, 0, none⟩ = some (.int .i64 k0) := cell_of_row _ _ _ _ _ _ kA
  have cA1 : WA.cell? ⟨w.heap.size, 1, none⟩ = some (.int .i64 k1) := cell_of_row _ _ _ _ _ _ kA
  have HW := Lib.hid hWA
  have H := Lib.hid h
  have hne : ¬ g = w.heap.size := by omega
  have hne' : ¬ w.heap.size = g := by omega
  have l0 := h.l0
  have l1 := h.l1
  have m0 := h.m0
  have m1 := h.m1
  have cc0 : s.s0 ≤ ca0 := Nat.le_trans h.l0 (own_cap h.o0)
  have cc1 : s.b1.length ≤ ca1 := own_cap h.o1
  have kk1 : (s.b1.length : Int) - (s.s1 : Int) < (k1 : Int) := by omega
  have Hn0 := Lib.hid hn0
  have Hn1 := Lib.hid hn1
  clear kA h tA hn0 hn1
  go_enter Try.func23, Try.ntmps23
  go_wp2_with fail
  rw [← HW.out]
  clear hWA
  refine wp_loop_rounds 3 ?_
  rw [rounds_succ]
  go_wp2_with fail
  go_quiet (fail)
  go_wp2_with fail
  go_region
  go_wp2_with fail
  go_region
  go_wp2_with fail
  rw [rounds_succ]
  go_wp2_with fail
  go_quiet (fail)
  go_wp2_with fail
  go_region
  go_wp2_with fail
  rw [show ((s.s1 : Int) + ((s.b1.length : Int) - (s.s1 : Int))) = (s.b1.length : Int) from by omega]
  go_region
  go_wp2_with fail
  rw [rounds_succ]
  go_wp2_with fail
  go_end0
  refine ⟨rfl, ?_⟩
  exact rcrash_fin k0 k1 s.s0 s.b1.length _ _ H.out fA Hn0.out Hn1.out

set_option maxRecDepth 100000 in
set_option maxHeartbeats 2000000 in
theorem rcrash_BA {B g : Nat} {s : DS} {v0 v1 : Value} (k0 : Nat) (hk0 : s.s0 + k0 ≤ s.b0.length) (hn0 : DS.keepN k0 s.s0 s.b0.length = s.s0 + k0) (k1 : Int) (hk1 : k1 < 0) (hn1 : DS.keepN k1 s.s1 s.b1.length = s.s1) (w : World) (h : RD w B g s v0 v1) :
    Calls Try.prog 23 #[.pointer (some ⟨g, 0, none⟩), .agg #[.int .i64 k0, .int .i64 k1]] w (UnitPostR w B g v0 v1 (s.crash k0 k1)) := by
  have hlt := lt_of_block h.blk
  obtain ⟨A0, ca0, rfl⟩ := own_len h.o0
  obtain ⟨A1, ca1, rfl⟩ := own_len h.o1
  have fA : Frame w (w.alloc (.cells #[.int .i64 k0, .int .i64 k1] 29)) [] := (Frame.refl w []).alloc _
  have kA : (w.alloc (.cells #[.int .i64 k0, .int .i64 k1] 29)).heap[w.heap.size]? = some (.cells #[.int .i64 k0, .int .i64 k1] 29 (0, 0)) := heap_alloc_new _ _
  have tA := h.toRC.frame fA
  obtain ⟨WA, hWA⟩ : ∃ WA, WA = w.alloc (.cells #[.int .i64 k0, .int .i64 k1] 29) := ⟨_, rfl⟩
  rw [← hWA] at fA kA tA
  obtain ⟨c0, c1, c2, c3, c4, c5, fz⟩ := tA.cells
  have cA0 : WA.cell? ⟨w.heap.size, 0, none⟩ = some (.int .i64 k0) := cell_of_row _ _ _ _ _ _ kA
  have cA1 : WA.cell? ⟨w.heap.size, 1, none⟩ = some (.int .i64 k1) := cell_of_row _ _ _ _ _ _ kA
  have HW := Lib.hid hWA
  have H := Lib.hid h
  have hne : ¬ g = w.heap.size := by omega
  have hne' : ¬ w.heap.size = g := by omega
  have l0 := h.l0
  have l1 := h.l1
  have m0 := h.m0
  have m1 := h.m1
  have cc0 : s.s0 + k0 ≤ ca0 := Nat.le_trans hk0 (own_cap h.o0)
  have kk0 : (k0 : Int) ≤ (s.b0.length : Int) - (s.s0 : Int) := by omega
  have cc1 : s.s1 ≤ ca1 := Nat.le_trans h.l1 (own_cap h.o1)
  have Hn0 := Lib.hid hn0
  have Hn1 := Lib.hid hn1
  clear kA h tA hn0 hn1
  go_enter Try.func23, Try.ntmps23
  go_wp2_with fail
  rw [← HW.out]
  clear hWA
  refine wp_loop_rounds 3 ?_
  rw [rounds_succ]
  go_wp2_with fail
  go_quiet (fail)
  go_wp2_with fail
  go_region
  go_wp2_with fail
  rw [show ((s.s0 : Int) + (k0 : Int)) = ((s.s0 + k0 : Nat) : Int) from by omega]
  go_region
  go_wp2_with fail
  rw [rounds_succ]
  go_wp2_with fail
  go_quiet (fail)
  go_wp2_with fail
  go_region
  go_wp2_with fail
  go_region
  go_wp2_with fail
  rw [rounds_succ]
  go_wp2_with fail
  go_end0
  refine ⟨rfl, ?_⟩
  exact rcrash_fin k0 k1 (s.s0 + k0) s.s1 _ _ H.out fA Hn0.out Hn1.out

set_option maxRecDepth 100000 in
set_option maxHeartbeats 2000000 in
theorem rcrash_BB {B g : Nat} {s : DS} {v0 v1 : Value} (k0 : Nat) (hk0 : s.s0 + k0 ≤ s.b0.length) (hn0 : DS.keepN k0 s.s0 s.b0.length = s.s0 + k0) (k1 : Nat) (hk1 : s.s1 + k1 ≤ s.b1.length) (hn1 : DS.keepN k1 s.s1 s.b1.length = s.s1 + k1) (w : World) (h : RD w B g s v0 v1) :
    Calls Try.prog 23 #[.pointer (some ⟨g, 0, none⟩), .agg #[.int .i64 k0, .int .i64 k1]] w (UnitPostR w B g v0 v1 (s.crash k0 k1)) := by
  have hlt := lt_of_block h.blk
  obtain ⟨A0, ca0, rfl⟩ := own_len h.o0
  obtain ⟨A1, ca1, rfl⟩ := own_len h.o1
  have fA : Frame w (w.alloc (.cells #[.int .i64 k0, .int .i64 k1] 29)) [] := (Frame.refl w []).alloc _
  have kA : (w.alloc (.cells #[.int .i64 k0, .int .i64 k1] 29)).heap[w.heap.size]? = some (.cells #[.int .i64 k0, .int .i64 k1] 29 (0, 0)) := heap_alloc_new _ _
  have tA := h.toRC.frame fA
  obtain ⟨WA, hWA⟩ : ∃ WA, WA = w.alloc (.cells #[.int .i64 k0, .int .i64 k1] 29) := ⟨_, rfl⟩
  rw [← hWA] at fA kA tA
  obtain ⟨c0, c1, c2, c3, c4, c5, fz⟩ := tA.cells
  have cA0 : WA.cell? ⟨w.heap.size, 0, none⟩ = some (.int .i64 k0) := cell_of_row _ _ _ _ _ _ kA
  have cA1 : WA.cell? ⟨w.heap.size, 1, none⟩ = some (.int .i64 k1) := cell_of_row _ _ _ _ _ _ kA
  have HW := Lib.hid hWA
  have H := Lib.hid h
  have hne : ¬ g = w.heap.size := by omega
  have hne' : ¬ w.heap.size = g := by omega
  have l0 := h.l0
  have l1 := h.l1
  have m0 := h.m0
  have m1 := h.m1
  have cc0 : s.s0 + k0 ≤ ca0 := Nat.le_trans hk0 (own_cap h.o0)
  have kk0 : (k0 : Int) ≤ (s.b0.length : Int) - (s.s0 : Int) := by omega
  have cc1 : s.s1 + k1 ≤ ca1 := Nat.le_trans hk1 (own_cap h.o1)
  have kk1 : (k1 : Int) ≤ (s.b1.length : Int) - (s.s1 : Int) := by omega
  have Hn0 := Lib.hid hn0
  have Hn1 := Lib.hid hn1
  clear kA h tA hn0 hn1
  go_enter Try.func23, Try.ntmps23
  go_wp2_with fail
  rw [← HW.out]
  clear hWA
  refine wp_loop_rounds 3 ?_
  rw [rounds_succ]
  go_wp2_with fail
  go_quiet (fail)
  go_wp2_with fail
  go_region
  go_wp2_with fail
  rw [show ((s.s0 : Int) + (k0 : Int)) = ((s.s0 + k0 : Nat) : Int) from by omega]
  go_region
  go_wp2_with fail
  rw [rounds_succ]
  go_wp2_with fail
  go_quiet (fail)
  go_wp2_with fail
  go_region
  go_wp2_with fail
  rw [show ((s.s1 : Int) + (k1 : Int)) = ((s.s1 + k1 : Nat) : Int) from by omega]
  go_region
  go_wp2_with fail
  rw [rounds_succ]
  go_wp2_with fail
  go_end0
  refine ⟨rfl, ?_⟩
  exact rcrash_fin k0 k1 (s.s0 + k0) (s.s1 + k1) _ _ H.out fA Hn0.out Hn1.out
end Go.Proofs.Ytaidpmflfimkgaa
