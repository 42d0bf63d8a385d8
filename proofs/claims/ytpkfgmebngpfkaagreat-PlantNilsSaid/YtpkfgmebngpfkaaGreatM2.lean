/- Whether a call is too large: one of two answers. No condition. -/
import Derived.Test.YtpkfgmebngpfkaaGreatM1
namespace Go.Proofs.YtpkfgmebngpfkaaGreat
open Go.RowKit Go

/-- A call's cells. -/
def callC (x : Nat → Int) (A : Nat → Option Addr) (n c : Nat → Nat) : Array Value := #[.int .i64 (x 0), .int .i64 (x 1), .int .i64 (x 2), .slice (A 0) (n 0) (c 0), .int .i64 (x 3), .int .i64 (x 4), .int .i64 (x 5), .int .i64 (x 6), .int .i64 (x 7), .int .i64 (x 8), .int .i64 (x 9), .int .i64 (x 10), .slice (A 1) (n 1) (c 1), .int .i64 (x 11), .int .i64 (x 12), .int .i64 (x 13), .slice (A 2) (n 2) (c 2), .slice (A 3) (n 3) (c 3), .int .i64 (x 14), .int .i64 (x 15), .int .i64 (x 16), .int .i64 (x 17), .int .i64 (x 18), .int .i64 (x 19), .int .i64 (x 20), .int .i64 (x 21), .int .i64 (x 22), .int .i64 (x 23), .int .i64 (x 24), .int .i64 (x 25), .int .i64 (x 26), .int .i64 (x 27)]
def SomeB (w : World) (e : Ending) (w' : World) : Prop := ∃ b : Bool, e = .returned (.bool b) ∧ Frame w w' []

set_option maxRecDepth 100000 in
set_option maxHeartbeats 1000000 in
theorem long_any (a b d : Int) (A : Option Addr) (n c g : Nat) (w : World) (h : w.heap[g]? = some (.cells #[.int .i64 a, .slice A n c, .int .i64 b, .int .i64 d] 44 (0, 0))) :
    Calls Tryz.prog 33 #[.slice (some ⟨g, 0, none⟩) 1 1] w (SomeB w) := by
  have c0 := cell_of_row _ _ 0 _ _ _ h
  have c1 := cell_of_row _ _ 1 _ _ _ h
  have c2 := cell_of_row _ _ 2 _ _ _ h
  have c3 := cell_of_row _ _ 3 _ _ _ h
  by_cases hn : 80 < n
  · go_enter Tryz.func33, Tryz.ntmps33
    go_wp2_with fail
    refine wp_loop_rounds 2 ?_
    rw [rounds_succ]
    go_wp2_with fail
    go_ret
    exact ⟨true, rfl, (Frame.refl _ _).alloc _⟩
  · go_enter Tryz.func33, Tryz.ntmps33
    go_wp2_with fail
    refine wp_loop_rounds 2 ?_
    rw [rounds_succ]
    go_wp2_with fail
    rw [rounds_succ]
    go_wp2_with fail
    go_ret
    exact ⟨false, rfl, (Frame.refl _ _).alloc _⟩

set_option maxRecDepth 100000 in
set_option maxHeartbeats 4000000 in
theorem big_any (x : Nat → Int) (A : Nat → Option Addr) (n c : Nat → Nat) (w : World) : Calls Tryz.prog 8 #[.agg (callC x A n c)] w (SomeB w) := by
  have kA : (w.alloc (.cells #[.int .i64 (x 0), .int .i64 (x 1), .int .i64 (x 2), .slice (A 0) (n 0) (c 0), .int .i64 (x 3), .int .i64 (x 4), .int .i64 (x 5), .int .i64 (x 6), .int .i64 (x 7), .int .i64 (x 8), .int .i64 (x 9), .int .i64 (x 10), .slice (A 1) (n 1) (c 1), .int .i64 (x 11), .int .i64 (x 12), .int .i64 (x 13), .slice (A 2) (n 2) (c 2), .slice (A 3) (n 3) (c 3), .int .i64 (x 14), .int .i64 (x 15), .int .i64 (x 16), .int .i64 (x 17), .int .i64 (x 18), .int .i64 (x 19), .int .i64 (x 20), .int .i64 (x 21), .int .i64 (x 22), .int .i64 (x 23), .int .i64 (x 24), .int .i64 (x 25), .int .i64 (x 26), .int .i64 (x 27)] 54)).heap[w.heap.size]? = some (.cells #[.int .i64 (x 0), .int .i64 (x 1), .int .i64 (x 2), .slice (A 0) (n 0) (c 0), .int .i64 (x 3), .int .i64 (x 4), .int .i64 (x 5), .int .i64 (x 6), .int .i64 (x 7), .int .i64 (x 8), .int .i64 (x 9), .int .i64 (x 10), .slice (A 1) (n 1) (c 1), .int .i64 (x 11), .int .i64 (x 12), .int .i64 (x 13), .slice (A 2) (n 2) (c 2), .slice (A 3) (n 3) (c 3), .int .i64 (x 14), .int .i64 (x 15), .int .i64 (x 16), .int .i64 (x 17), .int .i64 (x 18), .int .i64 (x 19), .int .i64 (x 20), .int .i64 (x 21), .int .i64 (x 22), .int .i64 (x 23), .int .i64 (x 24), .int .i64 (x 25), .int .i64 (x 26), .int .i64 (x 27)] 54 (0, 0)) := heap_alloc_new _ _
  have fA : Frame w (w.alloc (.cells #[.int .i64 (x 0), .int .i64 (x 1), .int .i64 (x 2), .slice (A 0) (n 0) (c 0), .int .i64 (x 3), .int .i64 (x 4), .int .i64 (x 5), .int .i64 (x 6), .int .i64 (x 7), .int .i64 (x 8), .int .i64 (x 9), .int .i64 (x 10), .slice (A 1) (n 1) (c 1), .int .i64 (x 11), .int .i64 (x 12), .int .i64 (x 13), .slice (A 2) (n 2) (c 2), .slice (A 3) (n 3) (c 3), .int .i64 (x 14), .int .i64 (x 15), .int .i64 (x 16), .int .i64 (x 17), .int .i64 (x 18), .int .i64 (x 19), .int .i64 (x 20), .int .i64 (x 21), .int .i64 (x 22), .int .i64 (x 23), .int .i64 (x 24), .int .i64 (x 25), .int .i64 (x 26), .int .i64 (x 27)] 54)) [] := (Frame.refl w []).alloc _
  have KA := Lib.hid kA
  have FA := Lib.hid fA
  clear kA fA
  unfold callC
  go_enter Tryz.func8, Tryz.ntmps8
  go_wp2_with (go_at_call 33; refine (long_any _ _ _ _ _ _ _ _ (heap_alloc2_new _ _ _)).mono ?_; rintro e w1 ⟨b, rfl, f1⟩; have k1 := (((Frame.refl _ []).alloc _).trans f1).heap KA.out (by simp); have d16 := cell_of_row _ _ 16 _ _ _ k1; have d17 := cell_of_row _ _ 17 _ _ _ k1; have F1 := Lib.hid (FA.out.trans (((Frame.refl _ []).alloc _).trans f1)); clear k1 f1)
  all_goals go_ret
  all_goals (first | exact ⟨_, rfl, F1.out⟩ | exact ⟨_, rfl, FA.out⟩)
end Go.Proofs.YtpkfgmebngpfkaaGreat
