/- Contracts of Start and Fork of the reference's disk. No condition. -/
import Derived.Test.YtaidpmflfimkgaaT12
namespace Go.Proofs.Ytaidpmflfimkgaa
open Go.RowKit

set_option maxRecDepth 100000 in
set_option maxHeartbeats 400000 in
theorem rstart_any {B g : Nat} {s : DS} {v0 v1 : Value} (w : World) (h : RD w B g s v0 v1) :
    Calls Try.prog 25 #[.pointer (some ⟨g, 0, none⟩)] w (UnitPostR w B g v0 v1 s.start) := by
  obtain ⟨c0, c1, c2, c3, c4, c5, fz⟩ := h.cells
  have H := Lib.hid h
  have hcr := rcrash_any 0 0 w h (by decide) (by decide)
  cases hd : s.down
  · rw [hd] at c4
    have Hs := Lib.hid (show s.start = s by simp [DS.start, hd])
    clear h hd hcr
    go_enter Try.func25, Try.ntmps25
    go_wp2_with fail
    go_end0
    refine ⟨rfl, ?_⟩
    rw [Hs.out]
    exact RDPost.same H.out (Frame.refl _ _)
  · rw [hd] at c4
    have Hs := Lib.hid (show s.start = { s.crash 0 0 with down := false } by simp [DS.start, hd])
    clear h hd
    go_enter Try.func25, Try.ntmps25
    go_wp2_with (first
      | (go_at_call 23; refine hcr.mono ?_; rintro e w2 ⟨rfl, v0', v1', htd, hf, hk⟩; obtain ⟨d0, d1, d2, d3, d4, d5, dz⟩ := htd.cells))
    go_end0
    refine ⟨rfl, ?_⟩
    rw [Hs.out]
    exact ⟨v0', v1', ⟨htd.toRC.set4 false, htd.l0, htd.l1, htd.m0, htd.m1, htd.ml⟩, hf.set _ _ (by simp), hk⟩

def ForkPostR (w : World) (B : Nat) (s : DS) (e : Ending) (w' : World) : Prop :=
  ∃ ng v0 v1, e = .returned (.pointer (some ⟨ng, 0, none⟩)) ∧ RD w' B ng s v0 v1 ∧ Frame w w' [] ∧ ∀ k, k ∈ foot ng v0 v1 → w.heap.size ≤ k

theorem Fork_kept {W1 w2 : World} {n c : Nat} (hg : (W1.alloc (.cells #[] 5)).drew.grownBy w2 (Value.slice (some ⟨W1.heap.size, 0, none⟩) n c).ownBlock) : Frame W1 w2 [] :=
  ((Frame.refl W1 []).alloc _).drew.grown hg fun k hk hlt => by simp [Value.ownBlock] at hk; omega

set_option maxRecDepth 100000 in
set_option maxHeartbeats 2000000 in
theorem rfork_any {B g : Nat} {s : DS} {v0 v1 : Value} (w : World) (h : RD w B g s v0 v1) :
    Calls Try.prog 7 #[.pointer (some ⟨g, 0, none⟩)] w (ForkPostR w B s) := by
  obtain ⟨i0, hi0, hz0, hz1, hz2⟩ := info_parts info_u8
  have hlt := lt_of_block h.blk
  obtain ⟨A0, ca0, rfl⟩ := own_len h.o0
  obtain ⟨A1, ca1, rfl⟩ := own_len h.o1
  obtain ⟨c0, c1, c2, c3, c4, c5, fz⟩ := h.cells
  have H := Lib.hid h
  clear h
  go_enter Try.func7, Try.ntmps7
  go_wp2_with fail
  go_region
  go_wp2_with fail
  have f1 : Frame w (w.alloc (.cells #[.slice none 0 0, .slice none 0 0, .int .i64 s.s0, .int .i64 s.s1, .bool s.down, .int .i64 s.left] 31)).drew [] := ((Frame.refl w []).alloc _).drew
  have k1 : (w.alloc (.cells #[.slice none 0 0, .slice none 0 0, .int .i64 s.s0, .int .i64 s.s1, .bool s.down, .int .i64 s.left] 31)).drew.heap[w.heap.size]? = some (.cells #[.slice none 0 0, .slice none 0 0, .int .i64 s.s0, .int .i64 s.s1, .bool s.down, .int .i64 s.left] 31 (0, 0)) := heap_alloc_new w _
  generalize (w.alloc (.cells #[.slice none 0 0, .slice none 0 0, .int .i64 s.s0, .int .i64 s.s1, .bool s.down, .int .i64 s.left] 31)).drew = W1 at f1 k1 ⊢
  clear c0 c1 c2 c3 c4 c5 fz
  have t1 := H.out.toRC.frame f1
  have kng : w.heap.size < W1.heap.size := lt_of_block k1
  have kg : g < W1.heap.size := lt_of_block t1.blk
  have hm0 := H.out.m0
  have hm1 := H.out.m1
  obtain ⟨c0, c1, c2, c3, c4, c5, fz⟩ := t1.cells
  have K1 := Lib.hid k1
  have Hr0 := Lib.hid ((Rd.of_own t1.o0).frame ((Frame.refl W1 []).alloc (.cells #[] 5)).drew (by simp))
  have Hl0 := Lib.hid (World.ownsRow.drew (World.ownsRow_lit (base := W1.heap.size) (e := 5) (size := 1) W1 #[] 0 (Nat.le_refl _) (Nat.zero_le _) rfl))
  have Hb0 := Lib.hid (show W1.heap.size ≤ (W1.alloc (.cells #[] 5)).drew.heap.size by simp)
  clear k1 hlt
  refine wp_loop_rounds 3 ?_
  rw [rounds_succ]
  go_wp2_with fail
  go_region_law (refine step_app _ (by rfl) (.tmp 24) (.tmp 30) _ (by rfl) W1.heap.size 5 i0 _ 1 1 Try.underlying27 hi0 hz0 hz1 hz2 rfl (by omega) _ 0 [] (by rfl) Hl0.out _ s.b0.length (bv s.b0) (by rfl) Hr0.out (bv_one _) (by unfold maxLen; omega) (by omega) Hb0.out ?_; intro v2 w2 hown hg hat _; obtain ⟨A', c', rfl⟩ := own_len hown; have hfr := Fork_kept hg; have q0 := cell_of_row _ _ 0 _ _ _ (hfr.heap K1.out (by simp)); have qf := frozen_of_row _ _ 0 _ _ (hfr.heap K1.out (by simp)))
  all_goals
    have hfr := Fork_kept hg
    have K2 := Lib.hid (set7 (hfr.heap K1.out (by simp)) 0 (.slice A' s.b0.length c'))
    have O2 := Lib.hid (own_set hown (hfr.heap K1.out (by simp)) (by decide) 0 (.slice A' s.b0.length c'))
    have f2 : Frame w (w2.setCell ⟨w.heap.size, 0, none⟩ (.slice A' s.b0.length c')) [] := (f1.trans hfr).set _ _ (by simp)
    clear hown hfr q0 qf c0 c1 c2 c3 c4 c5 fz hg
    go_wp2_with fail
    generalize w2.setCell ⟨w.heap.size, 0, none⟩ (.slice A' s.b0.length c') = W3 at f2 K2 O2 ⊢
    have t3 := H.out.toRC.frame f2
    obtain ⟨c0, c1, c2, c3, c4, c5, fz⟩ := t3.cells
    have kng3 : w.heap.size < W3.heap.size := lt_of_block K2.out
    have kg3 : g < W3.heap.size := lt_of_block t3.blk
    have Hr1 := Lib.hid ((Rd.of_own t3.o1).frame ((Frame.refl W3 []).alloc (.cells #[] 5)).drew (by simp))
    have Hl1 := Lib.hid (World.ownsRow.drew (World.ownsRow_lit (base := W3.heap.size) (e := 5) (size := 1) W3 #[] 0 (Nat.le_refl _) (Nat.zero_le _) rfl))
    have Hb1 := Lib.hid (show W3.heap.size ≤ (W3.alloc (.cells #[] 5)).drew.heap.size by simp)
    rw [rounds_succ]
    go_wp2_with fail
    go_region_law (refine step_app _ (by rfl) (.tmp 24) (.tmp 30) _ (by rfl) W3.heap.size 5 i0 _ 1 1 Try.underlying27 hi0 hz0 hz1 hz2 rfl (by omega) _ 0 [] (by rfl) Hl1.out _ s.b1.length (bv s.b1) (by rfl) Hr1.out (bv_one _) (by unfold maxLen; omega) (by omega) Hb1.out ?_; intro v4 w4 hown hg hat _; obtain ⟨A2, c2', rfl⟩ := own_len hown; have hfr := Fork_kept hg; have q0 := cell_of_row _ _ 1 _ _ _ (hfr.heap K2.out (by simp)); have qf := frozen_of_row _ _ 1 _ _ (hfr.heap K2.out (by simp)))
    all_goals
      go_wp2_with fail
      rw [rounds_succ]
      go_wp2_with fail
      go_ret
      have hfr' := Fork_kept hg
      have K4 := hfr'.heap K2.out (by simp)
      have O4 := own_frame O2.out hfr' (by simp)
      have hown' : w4.ownsRow W3.heap.size 5 1 (.slice A2 s.b1.length c2') s.b1.length (bv s.b1) := by simpa using hown
      have o0' := own_set O4 K4 (by decide) 1 (.slice A2 s.b1.length c2')
      have o1' := own_set hown' K4 (by decide) 1 (.slice A2 s.b1.length c2')
      have hBw : B ≤ w.heap.size := Nat.le_of_lt (Nat.lt_of_le_of_lt H.out.hB (lt_of_block H.out.blk))
      have o0'' : (w4.setCell ⟨w.heap.size, 1, none⟩ (.slice A2 s.b1.length c2')).ownsRow W1.heap.size 5 1 (.slice A' s.b0.length c') s.b0.length (bv s.b0) := by simpa using o0'
      refine ⟨w.heap.size, .slice A' s.b0.length c', .slice A2 s.b1.length c2', rfl, ⟨⟨set7 K4 1 _, own_base o0'' (Nat.le_trans hBw f1.size), own_base o1' (Nat.le_trans hBw f2.size), hBw⟩, H.out.l0, H.out.l1, H.out.m0, H.out.m1, H.out.ml⟩, ?_, ?_⟩
      · exact (f2.trans hfr').set _ _ (by simp)
      · intro k hk
        simp only [foot, List.mem_cons, List.mem_append, Option.mem_toList] at hk
        rcases hk with hk | hk | hk
        · exact Nat.le_of_eq hk.symm
        · exact Nat.le_trans f1.size (o0''.lt k hk).1
        · exact Nat.le_trans f2.size (hown'.lt k hk).1
end Go.Proofs.Ytaidpmflfimkgaa
