/- Contracts of Fork and NewDisk of the program's disk. No condition. -/
import Derived.Test.YtaidpmflfimkgaaT6
namespace Go.Proofs.Ytaidpmflfimkgaa
open Go.RowKit

def ForkPost (w : World) (B : Nat) (s : DS) (e : Ending) (w' : World) : Prop :=
  ∃ ng v0 v1, e = .returned (.pointer (some ⟨ng, 0, none⟩)) ∧ TD w' B ng s v0 v1 ∧ Frame w w' [] ∧ ∀ k, k ∈ foot ng v0 v1 → w.heap.size ≤ k

set_option maxRecDepth 100000 in
set_option maxHeartbeats 2000000 in
theorem fork_any {B g : Nat} {s : DS} {v0 v1 : Value} (w : World) (h : TD w B g s v0 v1) :
    Calls Try.prog 6 #[.pointer (some ⟨g, 0, none⟩)] w (ForkPost w B s) := by
  have hlt := lt_of_block h.blk
  obtain ⟨A0, ca0, rfl⟩ := own_len h.o0
  obtain ⟨A1, ca1, rfl⟩ := own_len h.o1
  obtain ⟨c0, c1, c2, c3, c4, c5, c6, fz⟩ := h.cells
  have H := Lib.hid h
  clear h
  go_enter Try.func6, Try.ntmps6
  go_wp2_with (go_at_call 12; refine (none_any _ _ c0).mono ?_; rintro e w' ⟨rfl, rfl⟩)
  go_region
  go_wp2_with fail
  have f1 : Frame w (w.alloc (.cells #[.bool true, .bool s.down, .int .i64 s.left, .slice A0 s.b0.length ca0, .int .i64 s.s0, .slice A1 s.b1.length ca1, .int .i64 s.s1] 60)).drew [] := ((Frame.refl w []).alloc _).drew
  have k1 : (w.alloc (.cells #[.bool true, .bool s.down, .int .i64 s.left, .slice A0 s.b0.length ca0, .int .i64 s.s0, .slice A1 s.b1.length ca1, .int .i64 s.s1] 60)).drew.heap[w.heap.size]? = some (.cells #[.bool true, .bool s.down, .int .i64 s.left, .slice A0 s.b0.length ca0, .int .i64 s.s0, .slice A1 s.b1.length ca1, .int .i64 s.s1] 60 (0, 0)) := heap_alloc_new w _
  generalize (w.alloc (.cells #[.bool true, .bool s.down, .int .i64 s.left, .slice A0 s.b0.length ca0, .int .i64 s.s0, .slice A1 s.b1.length ca1, .int .i64 s.s1] 60)).drew = W1 at f1 k1 ⊢
  clear c0 c1 c2 c3 c4 c5 c6 fz
  have t1 := H.out.toTC.frame f1
  have kng : w.heap.size < W1.heap.size := lt_of_block k1
  obtain ⟨c0, c1, c2, c3, c4, c5, c6, fz⟩ := t1.cells
  have K1 := Lib.hid k1
  have Hr0 := Lib.hid ((Rd.of_own t1.o0).frame (Frame.refl W1 []).drew (by simp))
  have hm0 : s.b0.length ≤ 1099511627776 := Nat.le_trans H.out.m0 (by decide)
  clear k1 hlt
  refine wp_loop_rounds 3 ?_
  rw [rounds_succ]
  go_wp2_with fail
  go_region_with (go_at_call 13; refine (clone_any _ _ _ W1.drew Hr0.out (bv_one _) hm0).mono ?_; rintro e w2 ⟨v', rfl, hown, hfr⟩; obtain ⟨A', c', rfl⟩ := own_len hown; have q0 := cell_of_row _ _ 3 _ _ _ (hfr.heap K1.out (by simp)); have qf := frozen_of_row _ _ 3 _ _ (hfr.heap K1.out (by simp)))
  have K2 := Lib.hid (set7 (hfr.heap K1.out (by simp)) 3 (.slice A' s.b0.length c'))
  have O2 := Lib.hid (own_set hown (hfr.heap K1.out (by simp)) (by decide) 3 (.slice A' s.b0.length c'))
  have f2 : Frame w (w2.setCell ⟨w.heap.size, 3, none⟩ (.slice A' s.b0.length c')) [] := (f1.trans (((Frame.refl W1 []).drew).trans hfr)).set _ _ (by simp)
  have z2 := Nat.le_trans f1.size hfr.size
  clear hown hfr q0 qf c0 c1 c2 c3 c4 c5 c6 fz K1 t1 Hr0 hm0
  go_wp2_with fail
  generalize w2.setCell ⟨w.heap.size, 3, none⟩ (.slice A' s.b0.length c') = W3 at f2 K2 O2 ⊢
  have t3 := H.out.toTC.frame f2
  obtain ⟨c0, c1, c2, c3, c4, c5, c6, fz⟩ := t3.cells
  have Hr1 := Lib.hid ((Rd.of_own t3.o1).frame (Frame.refl W3 []).drew (by simp))
  have hm1 : s.b1.length ≤ 1099511627776 := Nat.le_trans H.out.m1 (by decide)
  have kng3 : w.heap.size < W3.heap.size := lt_of_block K2.out
  rw [rounds_succ]
  go_wp2_with fail
  go_region_with (go_at_call 13; refine (clone_any _ _ _ W3.drew Hr1.out (bv_one _) hm1).mono ?_; rintro e w4 ⟨v', rfl, hown, hfr⟩; obtain ⟨A2, c2', rfl⟩ := own_len hown; have q0 := cell_of_row _ _ 5 _ _ _ (hfr.heap K2.out (by simp)); have qf := frozen_of_row _ _ 5 _ _ (hfr.heap K2.out (by simp)))
  go_wp2_with fail
  rw [rounds_succ]
  go_wp2_with fail
  go_ret
  have hfr' : Frame W3 w4 [] := (Frame.refl W3 []).drew.trans hfr
  have K4 := hfr'.heap K2.out (by simp)
  have O4 := own_frame O2.out hfr' (by simp)
  have o0' := own_set O4 K4 (by decide) 5 (.slice A2 s.b1.length c2')
  have o1' := own_set hown K4 (by decide) 5 (.slice A2 s.b1.length c2')
  have hBw : B ≤ w.heap.size := Nat.le_of_lt (Nat.lt_of_le_of_lt H.out.hB (lt_of_block H.out.blk))
  have hsz : w.heap.size ≤ W1.heap.size := f1.size
  refine ⟨w.heap.size, _, _, rfl, ⟨⟨set7 K4 5 _, own_base o0' (Nat.le_trans hBw hsz), own_base o1' (Nat.le_trans hBw f2.size), ?_, hBw⟩, H.out.l0, H.out.l1, H.out.m0, H.out.m1, H.out.ml⟩, ?_, ?_⟩
  · rcases hb : (Value.slice A' s.b0.length c').ownBlock with _ | k
    · exact .inl rfl
    · refine .inr fun e => ?_
      have h1 := (hown.lt k e.symm).1
      have h2 := (O2.out.lt k hb).2
      exact absurd h2 (Nat.not_lt.2 h1)
  · exact (f2.trans hfr').set _ _ (by simp)
  · intro k hk
    simp only [foot, List.mem_cons, List.mem_append, Option.mem_toList] at hk
    rcases hk with hk | hk | hk
    · exact Nat.le_of_eq hk.symm
    · exact Nat.le_trans hsz (O2.out.lt k hk).1
    · exact Nat.le_trans f2.size (hown.lt k hk).1

set_option maxHeartbeats 400000 in
theorem newDisk_any (w : World) :
    Calls Try.prog 5 #[] w (ForkPost w w.heap.size ⟨[], [], 0, 0, false, 0⟩) := by
  go_enter Try.func5, Try.ntmps5
  go_wp2
  go_ret
  refine ⟨w.heap.size, .slice none 0 0, .slice none 0 0, rfl, ⟨⟨heap_alloc_new w _, World.ownsRow_nil _ _ _ _, World.ownsRow_nil _ _ _ _, .inl rfl, Nat.le_refl _⟩, Nat.le_refl _, Nat.le_refl _, by simp, by simp, by simp⟩, (Frame.refl w []).alloc _, ?_⟩
  intro k hk
  simp [foot, Value.ownBlock] at hk
  omega
end Go.Proofs.Ytaidpmflfimkgaa
