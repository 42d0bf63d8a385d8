/- The law's sanity check holds. No condition. -/
import Derived.Test.YtaidpmflfimkgaaT21
namespace Go.Proofs.Ytaidpmflfimkgaa
open Go.RowKit

set_option maxRecDepth 100000 in
set_option maxHeartbeats 1000000 in
theorem rank_0 (w : World) : Calls Try.prog 11 #[.int .i64 0] w fun e w' => e = .returned (.int .u64 16294208416658607535) ∧ w = w' := by
  go_enter Try.func11, Try.ntmps11
  go_wp2
  go_ret
  exact ⟨rfl, rfl⟩

def LayoutsPt (w : World) (e : Ending) (w' : World) : Prop :=
  ∃ g c gp cp, e = .returned (.tuple #[.slice (some ⟨g, 0, none⟩) 1 c, .int .i64 0]) ∧ w'.cell? ⟨g, 4, none⟩ = some (.slice (some ⟨gp, 0, none⟩) 1 cp) ∧ w'.cell? ⟨gp, 0, none⟩ = some (.int .i64 5) ∧ Frame w w' []

set_option maxRecDepth 100000 in
set_option maxHeartbeats 1000000 in
theorem layouts_pt (g c : Nat) (w : World) (h : PtAt w g) (hc : 1 ≤ c) :
    Calls Try.prog 10 #[.slice (some ⟨g, 0, none⟩) 1 c, .int .i64 1] w (LayoutsPt w) := by
  have H := Lib.hid h
  clear h
  go_enter Try.func10, Try.ntmps10
  go_wp2_with (first
    | (go_at_call 29; refine (good_pt g c w H.out).mono ?_; rintro e w1 ⟨rfl, f1⟩; have h1 := H.out.frame f1 (by simp); have F1 := Lib.hid f1; clear f1)
    | (go_at_call 30; refine (layout_pt g c w1 h1 hc).mono ?_; rintro e w2 ⟨g2, n2, gp, np, rfl, q1, q2, f2⟩))
  go_ret2
  exact ⟨g2, n2, gp, np, rfl, q1, q2, F1.out.trans f2⟩

set_option maxRecDepth 100000 in
set_option maxHeartbeats 1000000 in
theorem awake_any (w : World) : Calls Try.prog 4 #[] w fun e w' => e = .returned (.bool true) ∧ Frame w w' [] := by
  have h1 : PtAt (w.alloc (.cells #[.int .i64 5, .int .i64 0, .int .i64 0, .int .i64 0, .int .i64 0, .int .i64 0, .int .i64 1, .int .i64 1, .int .i64 0] 46)) w.heap.size := PtAt.of_blk (heap_alloc_new _ _)
  go_enter Try.func4, Try.ntmps4
  go_wp2_with (first
    | (go_at_call 10; refine (layouts_pt w.heap.size 1 _ h1 (Nat.le_refl _)).mono ?_; rintro e w2 ⟨g2, n2, gp, np, rfl, q1, q2, f2⟩)
    | (go_at_call 11; refine (rank_0 _).mono ?_; rintro e w' ⟨rfl, rfl⟩))
  go_ret
  exact ⟨rfl, ((Frame.refl w []).alloc _).trans f2⟩
end Go.Proofs.Ytaidpmflfimkgaa
