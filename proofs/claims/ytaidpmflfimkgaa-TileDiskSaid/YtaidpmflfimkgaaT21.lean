/- The law's sanity check: the layout of one point (fourth part). No condition. -/
import Derived.Test.YtaidpmflfimkgaaT20
namespace Go.Proofs.Ytaidpmflfimkgaa
open Go.RowKit

def LayoutPt (w : World) (e : Ending) (w' : World) : Prop :=
  ∃ g c gp cp, e = .returned (.slice (some ⟨g, 0, none⟩) 1 c) ∧ w'.cell? ⟨g, 4, none⟩ = some (.slice (some ⟨gp, 0, none⟩) 1 cp) ∧ w'.cell? ⟨gp, 0, none⟩ = some (.int .i64 5) ∧ Frame w w' []

set_option maxRecDepth 100000 in
set_option maxHeartbeats 2000000 in
theorem layout_pt (g c : Nat) (w : World) (h : PtAt w g) (hc : 1 ≤ c) :
    Calls Try.prog 30 #[.slice (some ⟨g, 0, none⟩) 1 c, .int .i64 1] w (LayoutPt w) := by
  obtain ⟨i0, hi0, hz0, hz1, hz2⟩ := info_parts info_pt
  obtain ⟨i1, hi1, hy0, hy1, hy2⟩ := info_parts info_tile
  have hmm := @run_makeMap Try.prog
  have H := Lib.hid h
  clear h
  go_enter Try.func30, Try.ntmps30
  go_wp2_with (first
    | (go_at_call 36; refine (clone_pt g c w H.out hc).mono ?_; rintro e w1 ⟨g1, n1, rfl, p1, hg1, hn1, f1⟩)
    | (go_at_call 37; refine (sortP_one _ _ _ _).mono ?_; rintro e w' ⟨rfl, rfl⟩))
  refine wp_loop_rounds 2 ?_
  rw [rounds_succ]
  go_wp2_with fail
  -- the inner loop over the points
  refine wp_loop_rounds 2 ?_
  rw [rounds_succ]
  have P1 := Lib.hid p1
  have F1 := Lib.hid f1
  have hlt1 : g1 < w1.heap.size := p1.lt
  obtain ⟨c0, c1, c2, c3, c4, c5, c6, c7, c8⟩ := p1
  clear f1 hmm
  go_wp2_with fail
  have f2 : Frame w1 ((w1.alloc (.map #[] 0)).alloc (.cells #[.int .i64 5, .int .i64 0, .int .i64 0, .int .i64 0, .int .i64 0, .int .i64 0, .int .i64 1, .int .i64 1, .int .i64 0] 46)) [] := ((Frame.refl w1 []).alloc _).alloc _
  have m2 : ((w1.alloc (.map #[] 0)).alloc (.cells #[.int .i64 5, .int .i64 0, .int .i64 0, .int .i64 0, .int .i64 0, .int .i64 0, .int .i64 1, .int .i64 1, .int .i64 0] 46)).heap[w1.heap.size]? = some (.map #[] 0) := heap_alloc2_old w1 _ _
  have b2 : ((w1.alloc (.map #[] 0)).alloc (.cells #[.int .i64 5, .int .i64 0, .int .i64 0, .int .i64 0, .int .i64 0, .int .i64 0, .int .i64 1, .int .i64 1, .int .i64 0] 46)).heap[w1.heap.size + 1]? = some (.cells #[.int .i64 5, .int .i64 0, .int .i64 0, .int .i64 0, .int .i64 0, .int .i64 0, .int .i64 1, .int .i64 1, .int .i64 0] 46 (0, 0)) := heap_alloc2_new w1 _ _
  generalize (w1.alloc (.map #[] 0)).alloc (.cells #[.int .i64 5, .int .i64 0, .int .i64 0, .int .i64 0, .int .i64 0, .int .i64 0, .int .i64 1, .int .i64 1, .int .i64 0] 46) = W2 at f2 m2 b2 ⊢
  clear c0 c1 c2 c3 c4 c5 c6 c7 c8
  refine (cell_pt W2).mono ?_
  rintro e w3 ⟨rfl, f3⟩
  have m3 := f3.heap m2 (by simp)
  have b3 := f3.heap b2 (by simp)
  have hz3 : w1.heap.size + 1 < w3.heap.size := lt_of_block b3
  have F3 := Lib.hid (f2.trans f3)
  have m4 : (w3.alloc (.cells #[.int .i64 0, .int .i64 0, .int .i64 0, .int .i64 0] 51)).heap[w1.heap.size]? = some (.map #[] 0) := (Below.heap_alloc w3 _ _ (by omega)).trans m3
  have hl := run_lookup_key m4
  have m5 : ((w3.alloc (.cells #[.int .i64 0, .int .i64 0, .int .i64 0, .int .i64 0] 51)).alloc (.cells #[.int .i64 5, .int .i64 0, .int .i64 0, .int .i64 0, .int .i64 0, .int .i64 0, .int .i64 1, .int .i64 1, .int .i64 0] 46)).heap[w1.heap.size]? = some (.map #[] 0) := (Below.heap_alloc _ _ _ (by simp; omega)).trans m4
  have he := run_mapEntry_key m5
  obtain ⟨e0, e1, e2, e3, e4, e5, e6, e7, e8⟩ := PtAt.of_blk b3
  have B5 := Lib.hid (heap_alloc2_new w3 (.cells #[.int .i64 0, .int .i64 0, .int .i64 0, .int .i64 0] 51) (.cells #[.int .i64 5, .int .i64 0, .int .i64 0, .int .i64 0, .int .i64 0, .int .i64 0, .int .i64 1, .int .i64 1, .int .i64 0] 46))
  have A5 := Lib.hid (heap_alloc2_old w3 (.cells #[.int .i64 0, .int .i64 0, .int .i64 0, .int .i64 0] 51) (.cells #[.int .i64 5, .int .i64 0, .int .i64 0, .int .i64 0, .int .i64 0, .int .i64 0, .int .i64 1, .int .i64 1, .int .i64 0] 46))
  have M5 := Lib.hid m5
  have F5 := Lib.hid (((Frame.refl w3 []).alloc (.cells #[.int .i64 0, .int .i64 0, .int .i64 0, .int .i64 0] 51)).alloc (.cells #[.int .i64 5, .int .i64 0, .int .i64 0, .int .i64 0, .int .i64 0, .int .i64 0, .int .i64 1, .int .i64 1, .int .i64 0] 46))
  clear f2 f3 m2 b2 m3 b3 m4 m5
  have Rd5 := Lib.hid ((PtAt.of_blk B5.out).rd (Nat.le_refl 1))
  have N5 := Lib.hid (lt_of_block M5.out)
  go_wp2_with (at_builtin; refine wpList_app _ rfl (.tmp 50) (.tmp 52) _ rfl w.heap.size 46 i0 _ 9 72 Try.underlying47 hi0 hz0 hz1 hz2 rfl (by omega) (.slice none 0 0) 0 [] rfl (World.ownsRow_nil _ _ _ _) (.slice (some ⟨w3.heap.size + 1, 0, none⟩) 1 1) 1 [Value.int .i64 5, .int .i64 0, .int .i64 0, .int .i64 0, .int .i64 0, .int .i64 0, .int .i64 1, .int .i64 1, .int .i64 0] rfl ?c1 ?c2 ?c3 ?c4 ?c5 ?_)
  case c1 => exact Rd5.out.frame (F := [w1.heap.size]) ((Frame.refl _ _).pm _ _ (fun _ => by simp)) (fun k hk => by simp [Value.ownBlock] at hk ⊢; omega)
  case c2 => intro u hu; simp at hu; rcases hu with rfl | rfl | rfl | rfl <;> rfl
  case c3 => unfold maxLen; omega
  case c4 => omega
  case c5 => have := F1.out.size; rw [pm_size]; simp; omega
  clear hl he e0 e1 e2 e3 e4 e5 e6 e7 e8

  intro v6 w6 hown6 hg6 _
  obtain ⟨g6, n6, rfl, hB6, hlt6, hcell6⟩ := own_head hown6
  have f6 : Frame w1 w6 [] := (F3.out.trans F5.out).pm (w' := (w3.alloc (.cells #[.int .i64 0, .int .i64 0, .int .i64 0, .int .i64 0] 51)).alloc (.cells #[.int .i64 5, .int .i64 0, .int .i64 0, .int .i64 0, .int .i64 0, .int .i64 0, .int .i64 1, .int .i64 1, .int .i64 0] 46)) w1.heap.size (.map #[{ key := .agg #[.int .i64 0, .int .i64 0, .int .i64 0, .int .i64 0], val := .slice none 0 0, born := 0 }] 1) (fun hq => absurd hq (Nat.lt_irrefl _)) |>.grown hg6 (fun k hk => by cases hk)
  have m6 : w6.heap[w1.heap.size]? = some (.map #[{ key := .agg #[.int .i64 0, .int .i64 0, .int .i64 0, .int .i64 0], val := .slice none 0 0, born := 0 }] 1) := (hg6.block _ (by rw [pm_size]; exact N5.out) (by simp [Value.ownBlock])).trans (pm_at _ N5.out)
  have hs := run_entryStore_key (.agg #[.int .i64 0, .int .i64 0, .int .i64 0, .int .i64 0]) (.slice none 0 0) (.slice (some ⟨g6, 0, none⟩) 1 n6) m6
  have M6 := Lib.hid m6
  clear m6
  go_wp2_with fail
  clear hs
  have f7 : Frame w1 (pm w6 w1.heap.size (.map #[{ key := .agg #[.int .i64 0, .int .i64 0, .int .i64 0, .int .i64 0], val := .slice (some ⟨g6, 0, none⟩) 1 n6, born := 0 }] 1)) [] := f6.pm _ _ (fun hq => absurd hq (Nat.lt_irrefl _))
  have m7 : (pm w6 w1.heap.size (.map #[{ key := .agg #[.int .i64 0, .int .i64 0, .int .i64 0, .int .i64 0], val := .slice (some ⟨g6, 0, none⟩) 1 n6, born := 0 }] 1)).heap[w1.heap.size]? = some (.map #[{ key := .agg #[.int .i64 0, .int .i64 0, .int .i64 0, .int .i64 0], val := .slice (some ⟨g6, 0, none⟩) 1 n6, born := 0 }] 1) := pm_at _ (lt_of_block M6.out)
  have ne6 : g6 ≠ w1.heap.size := by
    intro hq
    have := hcell6 0 _ rfl
    rw [hq] at this
    simp [World.cell?, M6.out] at this
  have q7 : (pm w6 w1.heap.size (.map #[{ key := .agg #[.int .i64 0, .int .i64 0, .int .i64 0, .int .i64 0], val := .slice (some ⟨g6, 0, none⟩) 1 n6, born := 0 }] 1)).cell? ⟨g6, 0, none⟩ = some (.int .i64 5) := (World.cell?_of_block (pm_other _ ne6)).trans (hcell6 0 _ rfl)
  generalize pm w6 w1.heap.size (.map #[{ key := .agg #[.int .i64 0, .int .i64 0, .int .i64 0, .int .i64 0], val := .slice (some ⟨g6, 0, none⟩) 1 n6, born := 0 }] 1) = W7 at f7 m7 q7 ⊢
  clear f6 hg6 hown6 hcell6
  have hr := run_range_key _ _ m7
  have f8 : Frame w1 (W7.alloc (.mapIter (some w1.heap.size) 1 #[] 1)) [] := f7.alloc _
  have l7 : w1.heap.size < W7.heap.size := lt_of_block m7
  have m8 : (W7.alloc (.mapIter (some w1.heap.size) 1 #[] 1)).heap[w1.heap.size]? = some (.map #[{ key := .agg #[.int .i64 0, .int .i64 0, .int .i64 0, .int .i64 0], val := .slice (some ⟨g6, 0, none⟩) 1 n6, born := 0 }] 1) := (Below.heap_alloc W7 _ _ l7).trans m7
  have t8 : (W7.alloc (.mapIter (some w1.heap.size) 1 #[] 1)).heap[W7.heap.size]? = some (.mapIter (some w1.heap.size) 1 #[] 1) := heap_alloc_new W7 _
  have l6 : g6 < W7.heap.size := World.block_lt_of_cell? W7 _ q7
  have q8 : (W7.alloc (.mapIter (some w1.heap.size) 1 #[] 1)).cell? ⟨g6, 0, none⟩ = some (.int .i64 5) := (World.cell?_alloc_lt W7 _ _ l6).trans q7
  have F8 := Lib.hid f8
  have M8 := Lib.hid m8
  have T8 := Lib.hid t8
  have Q8 := Lib.hid q8
  have M7 := Lib.hid m7
  clear f8 m8 t8 q8 f7 m7 q7
  rw [rounds_succ]
  go_wp2_with fail
  clear hr
  generalize W7.alloc (.mapIter (some w1.heap.size) 1 #[] 1) = W8 at F8 M8 T8 Q8 ⊢
  have ne8 : w1.heap.size ≠ W7.heap.size := by omega
  have ne9 : g6 ≠ W7.heap.size := by omega
  have F9 := Lib.hid (F8.out.pm (w' := W8) W7.heap.size (.mapIter (some w1.heap.size) 1 #[0] 1) (fun hq => absurd hq (by omega)))
  have M9 := Lib.hid ((pm_other (.mapIter (some w1.heap.size) 1 #[0] 1) ne8).trans M8.out)
  have T9 := Lib.hid (pm_at (.mapIter (some w1.heap.size) 1 #[0] 1) (lt_of_block T8.out))
  have Q9 := Lib.hid ((World.cell?_of_block (pm_other (.mapIter (some w1.heap.size) 1 #[0] 1) ne9)).trans Q8.out)
  have hn := run_next_first 0 _ _ M8.out T8.out
  have he := run_entry_first _ _ M9.out T9.out
  obtain ⟨W9, hW9⟩ : ∃ W9, W9 = pm W8 W7.heap.size (.mapIter (some w1.heap.size) 1 #[0] 1) := ⟨_, rfl⟩
  rw [← hW9] at hn he F9 M9 T9 Q9
  have HW9 := Lib.hid hW9
  clear hW9
  have l9 : g6 < W9.heap.size := World.block_lt_of_cell? W9 _ Q9.out
  have lm9 : w1.heap.size < W9.heap.size := lt_of_block M9.out
  have lt9 : W7.heap.size < W9.heap.size := lt_of_block T9.out
  have B10 := Lib.hid (heap_alloc2_new W9 (.cells #[.int .i64 0, .int .i64 0, .int .i64 0, .int .i64 0] 51) (.cells #[.int .i64 0, .int .i64 0, .int .i64 0, .int .i64 0, .slice (some ⟨g6, 0, none⟩) 1 n6] 53))
  have F10 := Lib.hid (((Frame.refl W9 []).alloc (.cells #[.int .i64 0, .int .i64 0, .int .i64 0, .int .i64 0] 51)).alloc (.cells #[.int .i64 0, .int .i64 0, .int .i64 0, .int .i64 0, .slice (some ⟨g6, 0, none⟩) 1 n6] 53))
  refine wp_loop_rounds 2 ?_
  rw [rounds_succ]
  go_wp2_with (first
    | (go_at_call 37; refine (sortP_one _ _ _ _).mono ?_; rintro e w' ⟨rfl, rfl⟩)
    | (at_builtin; refine wpList_app _ rfl (.tmp 70) (.tmp 74) _ rfl w.heap.size 53 i1 _ 5 56 Try.underlying39 hi1 hy0 hy1 hy2 rfl (by omega) (.slice none 0 0) 0 [] rfl (World.ownsRow_nil _ _ _ _) (.slice (some ⟨W9.heap.size + 1, 0, none⟩) 1 1) 1 [.int .i64 0, .int .i64 0, .int .i64 0, .int .i64 0, .slice (some ⟨g6, 0, none⟩) 1 n6] rfl ?d1 ?d2 ?d3 ?d4 ?d5 ?_))
  case d1 => exact rd_blk (cs := #[.int .i64 0, .int .i64 0, .int .i64 0, .int .i64 0, .slice (some ⟨g6, 0, none⟩) 1 n6]) B10.out rfl
  case d2 => intro u hu; simp at hu; rcases hu with rfl | rfl | rfl <;> rfl
  case d3 => unfold maxLen; omega
  case d4 => omega
  case d5 => have := F1.out.size; have := F9.out.size; simp; omega
  clear hn he
  intro v11 w11 hown hg _
  obtain ⟨g11, n11, rfl, hB11, hlt11, hcell11⟩ := own_head hown
  have f11 := (F9.out.trans F10.out).grown hg (fun k hk => by cases hk)
  have f911 := F10.out.grown hg (fun k hk => by cases hk)
  have m11 := f911.heap M9.out (by simp)
  have t11 := f911.heap T9.out (by simp)
  have q11 := f911.cell Q9.out (by simp)
  have ho := run_next_over 0 _ _ m11 t11
  go_wp2_with fail
  rw [rounds_succ]
  go_wp2_with fail
  clear ho
  rw [rounds_succ]
  go_wp2_with (go_at_call 41; refine (sortT_one _ _ _ _).mono ?_; rintro e w' ⟨rfl, rfl⟩)
  go_ret
  exact ⟨g11, n11, g6, n6, rfl, hcell11 4 _ rfl, q11, F1.out.trans f11⟩
end Go.Proofs.Ytaidpmflfimkgaa
