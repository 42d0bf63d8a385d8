/- The law's sanity check: the layout of one point (second part). No condition. -/
import Derived.Test.YtaidpmflfimkgaaT17
namespace Go.Proofs.Ytaidpmflfimkgaa
open Go.RowKit

/-- The point lies at the head of block g. -/
structure PtAt (W : World) (g : Nat) : Prop where
  c0 : W.cell? ⟨g, 0, none⟩ = some (.int .i64 5)
  c1 : W.cell? ⟨g, 1, none⟩ = some (.int .i64 0)
  c2 : W.cell? ⟨g, 2, none⟩ = some (.int .i64 0)
  c3 : W.cell? ⟨g, 3, none⟩ = some (.int .i64 0)
  c4 : W.cell? ⟨g, 4, none⟩ = some (.int .i64 0)
  c5 : W.cell? ⟨g, 5, none⟩ = some (.int .i64 0)
  c6 : W.cell? ⟨g, 6, none⟩ = some (.int .i64 1)
  c7 : W.cell? ⟨g, 7, none⟩ = some (.int .i64 1)
  c8 : W.cell? ⟨g, 8, none⟩ = some (.int .i64 0)

theorem PtAt.lt {W : World} {g : Nat} (h : PtAt W g) : g < W.heap.size := World.block_lt_of_cell? W _ h.c0
theorem PtAt.frame {W W' : World} {g : Nat} {F : List Nat} (h : PtAt W g) (hf : Frame W W' F) (hn : g ∉ F) : PtAt W' g :=
  ⟨hf.cell h.c0 hn, hf.cell h.c1 hn, hf.cell h.c2 hn, hf.cell h.c3 hn, hf.cell h.c4 hn, hf.cell h.c5 hn, hf.cell h.c6 hn, hf.cell h.c7 hn, hf.cell h.c8 hn⟩
theorem PtAt.of_blk {W : World} {g : Nat} {t : TypeId} (h : W.heap[g]? = some (.cells #[.int .i64 5, .int .i64 0, .int .i64 0, .int .i64 0, .int .i64 0, .int .i64 0, .int .i64 1, .int .i64 1, .int .i64 0] t (0, 0))) : PtAt W g :=
  ⟨cell_of_row _ _ _ _ _ _ h, cell_of_row _ _ _ _ _ _ h, cell_of_row _ _ _ _ _ _ h, cell_of_row _ _ _ _ _ _ h, cell_of_row _ _ _ _ _ _ h, cell_of_row _ _ _ _ _ _ h, cell_of_row _ _ _ _ _ _ h, cell_of_row _ _ _ _ _ _ h, cell_of_row _ _ _ _ _ _ h⟩

set_option maxRecDepth 100000 in
set_option maxHeartbeats 1000000 in
theorem labelValid_pt (g c : Nat) (w : World) (h : PtAt w g) :
    Calls Try.prog 35 #[.slice (some ⟨g, 0, none⟩) 1 c] w fun e w' => e = .returned (.bool true) ∧ Frame w w' [] := by
  have hmm : ∀ W : World, (Instr.makeMap 82 (some (.int .i64 1))).run Try.prog W = .ok (.map (some W.heap.size)) (W.alloc (.map #[] 0)) := fun W => by
    simp [Instr.makeMap, run_underlying Try.underlying82]; rfl
  obtain ⟨c0, c1, c2, c3, c4, c5, c6, c7, c8⟩ := h
  have hlt : g < w.heap.size := World.block_lt_of_cell? w _ c0
  have f1 : Frame w ((w.alloc (.map #[] 0)).alloc (.cells #[.int .i64 5, .int .i64 0, .int .i64 0, .int .i64 0, .int .i64 0, .int .i64 0, .int .i64 1, .int .i64 1, .int .i64 0] 46)) [] := ((Frame.refl w []).alloc _).alloc _
  have m1 : ((w.alloc (.map #[] 0)).alloc (.cells #[.int .i64 5, .int .i64 0, .int .i64 0, .int .i64 0, .int .i64 0, .int .i64 0, .int .i64 1, .int .i64 1, .int .i64 0] 46)).heap[w.heap.size]? = some (.map #[] 0) := heap_alloc2_old w _ _
  have k1 : ((w.alloc (.map #[] 0)).alloc (.cells #[.int .i64 5, .int .i64 0, .int .i64 0, .int .i64 0, .int .i64 0, .int .i64 0, .int .i64 1, .int .i64 1, .int .i64 0] 46)).heap[w.heap.size + 1]? = some (.cells #[.int .i64 5, .int .i64 0, .int .i64 0, .int .i64 0, .int .i64 0, .int .i64 0, .int .i64 1, .int .i64 1, .int .i64 0] 46 (0, 0)) := heap_alloc2_new w _ _
  have F1 := Lib.hid f1
  have M1 := Lib.hid m1
  have K1 := Lib.hid k1
  clear f1 m1 k1
  go_enter Try.func35, Try.ntmps35
  go_wp2_with fail
  refine wp_loop_rounds 2 ?_
  rw [rounds_succ]
  go_wp2_with fail
  generalize (w.alloc (.map #[] 0)).alloc (.cells #[.int .i64 5, .int .i64 0, .int .i64 0, .int .i64 0, .int .i64 0, .int .i64 0, .int .i64 1, .int .i64 1, .int .i64 0] 46) = W1 at F1 M1 K1 ⊢
  refine (validPoint_pt W1).mono ?_
  rintro e w2 ⟨rfl, f2⟩
  have m2 := f2.heap M1.out (by simp)
  have d0 := cell_of_row _ _ 0 _ _ _ (f2.heap K1.out (by simp))
  have hl := run_lookup5 m2
  have hu := run_update5 (.bool true) m2
  have hz : w.heap.size < w2.heap.size := lt_of_block m2
  have F2 := Lib.hid (F1.out.trans f2)
  clear f2 m2 c0 c1 c2 c3 c4 c5 c6 c7 c8
  go_wp2_with fail
  clear hl hu
  rw [rounds_succ]
  go_wp2_with fail
  go_ret
  exact ⟨rfl, F2.out.pm _ _ (fun hq => absurd hq (Nat.lt_irrefl _))⟩

set_option maxRecDepth 100000 in
set_option maxHeartbeats 1000000 in
theorem good_pt (g c : Nat) (w : World) (h : PtAt w g) :
    Calls Try.prog 29 #[.slice (some ⟨g, 0, none⟩) 1 c] w fun e w' => e = .returned (.bool true) ∧ Frame w w' [] := by
  have hlv := labelValid_pt g c _ (h.frame ((Frame.refl w []).alloc (.cells #[.int .i64 5, .int .i64 0, .int .i64 0, .int .i64 0, .int .i64 0, .int .i64 0, .int .i64 1, .int .i64 1, .int .i64 0] 46)) (by simp))
  obtain ⟨c0, c1, c2, c3, c4, c5, c6, c7, c8⟩ := h
  have hlt : g < w.heap.size := World.block_lt_of_cell? w _ c0
  go_enter Try.func29, Try.ntmps29
  go_wp2_with fail
  refine wp_loop_rounds 2 ?_
  rw [rounds_succ]
  go_wp2_with fail
  rw [rounds_succ]
  go_wp2_with fail
  refine hlv.mono ?_
  rintro e w2 ⟨rfl, f2⟩
  go_wp2_with fail
  go_ret
  exact ⟨rfl, ((Frame.refl w []).alloc _).trans f2⟩

def SomeInt (w : World) (e : Ending) (w' : World) : Prop := ∃ l : Int, e = .returned (.int .i64 l) ∧ w = w'

set_option maxRecDepth 100000 in
set_option maxHeartbeats 1000000 in
theorem bitsLen_one (w : World) : Calls Try.prog 47 #[.int .u64 1] w (SomeInt w) := by
  go_enter Try.func47, Try.ntmps47
  go_wp2
  go_ret
  exact ⟨_, rfl, rfl⟩

set_option maxRecDepth 100000 in
set_option maxHeartbeats 1000000 in
theorem insP_one (v cmp : Value) (w : World) : Calls Try.prog 53 #[v, .int .i64 0, .int .i64 1, cmp] w fun e w' => e = .returned (.tuple #[]) ∧ w = w' := by
  go_enter Try.func53, Try.ntmps53
  go_wp2_with fail
  refine wp_loop_rounds 1 ?_
  rw [rounds_succ]
  go_wp2_with fail
  go_end0
  exact ⟨rfl, rfl⟩

set_option maxRecDepth 100000 in
set_option maxHeartbeats 1000000 in
theorem pdqP_one (v cmp : Value) (l : Int) (w : World) : Calls Try.prog 46 #[v, .int .i64 0, .int .i64 1, .int .i64 l, cmp] w fun e w' => e = .returned (.tuple #[]) ∧ w = w' := by
  go_enter Try.func46, Try.ntmps46
  go_wp2_with fail
  refine wp_loop_rounds 1 ?_
  rw [rounds_succ]
  go_wp2_with (go_at_call 53; refine (insP_one _ _ _).mono ?_; rintro e w' ⟨rfl, rfl⟩)
  refine bodyPost_ret (results_none rfl _ _ _) rfl ?_
  exact ⟨rfl, rfl⟩

set_option maxRecDepth 100000 in
set_option maxHeartbeats 1000000 in
theorem sortP_one (A : Option Addr) (c : Nat) (cmp : Value) (w : World) : Calls Try.prog 37 #[.slice A 1 c, cmp] w fun e w' => e = .returned (.tuple #[]) ∧ w = w' := by
  go_enter Try.func37, Try.ntmps37
  go_wp2_with (first
    | (go_at_call 47; refine (bitsLen_one _).mono ?_; rintro e w' ⟨l, rfl, rfl⟩)
    | (go_at_call 46; refine (pdqP_one _ _ _ _).mono ?_; rintro e w' ⟨rfl, rfl⟩))
  go_end0
  exact ⟨rfl, rfl⟩

set_option maxRecDepth 100000 in
set_option maxHeartbeats 1000000 in
theorem insT_one (v cmp : Value) (w : World) : Calls Try.prog 63 #[v, .int .i64 0, .int .i64 1, cmp] w fun e w' => e = .returned (.tuple #[]) ∧ w = w' := by
  go_enter Try.func63, Try.ntmps63
  go_wp2_with fail
  refine wp_loop_rounds 1 ?_
  rw [rounds_succ]
  go_wp2_with fail
  go_end0
  exact ⟨rfl, rfl⟩

set_option maxRecDepth 100000 in
set_option maxHeartbeats 1000000 in
theorem pdqT_one (v cmp : Value) (l : Int) (w : World) : Calls Try.prog 49 #[v, .int .i64 0, .int .i64 1, .int .i64 l, cmp] w fun e w' => e = .returned (.tuple #[]) ∧ w = w' := by
  go_enter Try.func49, Try.ntmps49
  go_wp2_with fail
  refine wp_loop_rounds 1 ?_
  rw [rounds_succ]
  go_wp2_with (go_at_call 63; refine (insT_one _ _ _).mono ?_; rintro e w' ⟨rfl, rfl⟩)
  refine bodyPost_ret (results_none rfl _ _ _) rfl ?_
  exact ⟨rfl, rfl⟩

set_option maxRecDepth 100000 in
set_option maxHeartbeats 1000000 in
theorem sortT_one (A : Option Addr) (c : Nat) (cmp : Value) (w : World) : Calls Try.prog 41 #[.slice A 1 c, cmp] w fun e w' => e = .returned (.tuple #[]) ∧ w = w' := by
  go_enter Try.func41, Try.ntmps41
  go_wp2_with (first
    | (go_at_call 47; refine (bitsLen_one _).mono ?_; rintro e w' ⟨l, rfl, rfl⟩)
    | (go_at_call 49; refine (pdqT_one _ _ _ _).mono ?_; rintro e w' ⟨rfl, rfl⟩))
  go_end0
  exact ⟨rfl, rfl⟩
end Go.Proofs.Ytaidpmflfimkgaa
