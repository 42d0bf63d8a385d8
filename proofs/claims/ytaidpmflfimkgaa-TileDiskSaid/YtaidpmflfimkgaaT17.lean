/- The law's sanity check: the layout of one point (first part). No condition. -/
import Derived.Test.YtaidpmflfimkgaaMem
import Derived.LoopN
import Derived.WideLaws
import Derived.MapKept
import Derived.Laws.IdiomRangeMap
import Derived.Carry
namespace Go.Proofs.Ytaidpmflfimkgaa
open Go.RowKit

/-- W with another object at r. -/
def pm (W : World) (r : Nat) (o : Obj) : World := { W with heap := W.heap.setIfInBounds r o }
theorem pm_at {W : World} {r : Nat} (o : Obj) (h : r < W.heap.size) : (pm W r o).heap[r]? = some o := by simp [pm, h]
theorem pm_other {W : World} {r k : Nat} (o : Obj) (h : k ≠ r) : (pm W r o).heap[k]? = W.heap[k]? := by
  simp only [pm, Array.getElem?_setIfInBounds]
  rw [if_neg (Ne.symm h)]
theorem pm_size (W : World) (r : Nat) (o : Obj) : (pm W r o).heap.size = W.heap.size := by simp [pm]
theorem Frame.pm {w w' : World} {F : List Nat} (h : Frame w w' F) (r : Nat) (o : Obj) (hr : r < w.heap.size → r ∈ F) : Frame w (pm w' r o) F :=
  ⟨h.os, h.tape, h.output, by rw [pm_size]; exact h.size, fun k hk hn => (pm_other o (fun e => hn (by subst e; exact hr hk))).trans (h.block k hk hn)⟩

/-- The point of the sanity check, as cells. -/
def pt : Array Value := #[.int .i64 5, .int .i64 0, .int .i64 0, .int .i64 0, .int .i64 0, .int .i64 0, .int .i64 1, .int .i64 1, .int .i64 0]

set_option maxRecDepth 100000 in
set_option maxHeartbeats 400000 in
theorem within_any (lo n hi : Int) (w : World) (h1 : lo ≤ n) (h2 : n ≤ hi) :
    Calls Try.prog 50 #[.int .i64 lo, .int .i64 n, .int .i64 hi] w fun e w' => e = .returned (.bool true) ∧ w = w' := by
  go_enter Try.func50, Try.ntmps50
  go_wp2
  go_ret
  exact ⟨rfl, rfl⟩

set_option maxRecDepth 100000 in
set_option maxHeartbeats 1000000 in
theorem place_pt (w : World) :
    Calls Try.prog 52 #[.agg #[.int .i64 5, .int .i64 0, .int .i64 0, .int .i64 0, .int .i64 0, .int .i64 0, .int .i64 1, .int .i64 1, .int .i64 0]] w fun e w' => e = .returned (.agg #[.int .i64 0, .int .i64 0]) ∧ Frame w w' [] := by
  go_enter Try.func52, Try.ntmps52
  go_wp2
  refine bodyPost_ret (v := .agg #[.int .i64 0, .int .i64 0]) (by simp [results, Try.results52, go_sem]) rfl ⟨rfl, ?_⟩
  repeat (first | exact Frame.refl _ _ | refine Frame.alloc ?_ _ | refine Frame.drew ?_)

set_option maxRecDepth 100000 in
set_option maxHeartbeats 1000000 in
theorem validPlace_pt (w : World) :
    Calls Try.prog 51 #[.agg #[.int .i64 0, .int .i64 0]] w fun e w' => e = .returned (.bool true) ∧ Frame w w' [] := by
  go_enter Try.func51, Try.ntmps51
  go_wp2_with (first | (go_at_call 50; refine (within_any _ _ _ _ (by decide) (by decide)).mono ?_; rintro e w' ⟨rfl, rfl⟩))
  go_ret
  exact ⟨rfl, (Frame.refl _ _).alloc _⟩

set_option maxRecDepth 100000 in
set_option maxHeartbeats 1000000 in
theorem validPoint_pt (w : World) :
    Calls Try.prog 45 #[.agg #[.int .i64 5, .int .i64 0, .int .i64 0, .int .i64 0, .int .i64 0, .int .i64 0, .int .i64 1, .int .i64 1, .int .i64 0]] w fun e w' => e = .returned (.bool true) ∧ Frame w w' [] := by
  have fA : Frame w (w.alloc (.cells #[.int .i64 5, .int .i64 0, .int .i64 0, .int .i64 0, .int .i64 0, .int .i64 0, .int .i64 1, .int .i64 1, .int .i64 0] 46)) [] := (Frame.refl w []).alloc _
  have kA : (w.alloc (.cells #[.int .i64 5, .int .i64 0, .int .i64 0, .int .i64 0, .int .i64 0, .int .i64 0, .int .i64 1, .int .i64 1, .int .i64 0] 46)).heap[w.heap.size]? = some (.cells #[.int .i64 5, .int .i64 0, .int .i64 0, .int .i64 0, .int .i64 0, .int .i64 0, .int .i64 1, .int .i64 1, .int .i64 0] 46 (0, 0)) := heap_alloc_new _ _
  go_enter Try.func45, Try.ntmps45
  go_wp2_with (first
    | (go_at_call 50; refine (within_any _ _ _ _ (by decide) (by decide)).mono ?_; rintro e w' ⟨rfl, rfl⟩)
    | (go_at_call 52; refine (place_pt _).mono ?_; rintro e w1 ⟨rfl, f1⟩)
    | (go_at_call 51; refine (validPlace_pt _).mono ?_; rintro e w2 ⟨rfl, f2⟩; have k2 := (f1.trans f2).heap kA (by simp); have d0 := cell_of_row _ _ 0 _ _ _ k2; have d1 := cell_of_row _ _ 1 _ _ _ k2; have d2 := cell_of_row _ _ 2 _ _ _ k2; have d3 := cell_of_row _ _ 3 _ _ _ k2; have d4 := cell_of_row _ _ 4 _ _ _ k2; have d5 := cell_of_row _ _ 5 _ _ _ k2; have d6 := cell_of_row _ _ 6 _ _ _ k2; have d7 := cell_of_row _ _ 7 _ _ _ k2; have d8 := cell_of_row _ _ 8 _ _ _ k2))
  go_ret
  exact ⟨rfl, fA.trans (f1.trans f2)⟩

theorem run_lookup5 {W : World} {r c : Nat} (hb : W.heap[r]? = some (.map #[] c)) : (Instr.lookup 82 (.map (some r)) (.int .i64 5) false).run Try.prog W = .ok (.bool false) W := by
  have hz : (zeroValue 4).run Try.prog W = .ok (.bool false) W := by kernel_rfl
  have hc : (Instr.checkKey true 10000 3 (.int .i64 5)).run Try.prog W = .ok () W := by kernel_rfl
  have hf : (Instr.findKey 3 (.int .i64 5) []).run Try.prog W = .ok none W := by kernel_rfl
  have hg : (getObj r).run Try.prog W = .ok (.map #[] c) W := by simp [getObj, Sem.run, hb]
  simp [Instr.lookup, run_underlying Try.underlying82, hg, hz, hc, hf]

theorem run_update5 {W : World} {r : Nat} (v : Value) (hb : W.heap[r]? = some (.map #[] 0)) : (Instr.mapUpdate 82 (.map (some r)) (.int .i64 5) v).run Try.prog W = .ok () (pm W r (.map #[{ key := .int .i64 5, val := v, born := 0 }] 1)) := by
  have hc : (Instr.checkKey false 10000 3 (.int .i64 5)).run Try.prog W = .ok () W := by kernel_rfl
  have hf : (Instr.findKey 3 (.int .i64 5) []).run Try.prog W = .ok none W := by kernel_rfl
  have hg : (getObj r).run Try.prog W = .ok (.map #[] 0) W := by simp [getObj, Sem.run, hb]
  have hs : ∀ o, (setObj r o).run Try.prog W = .ok () (pm W r o) := fun o => by simp [setObj, Sem.run, hb, pm]
  simp [Instr.mapUpdate, run_underlying Try.underlying82, hg, hc, hf, hs]
end Go.Proofs.Ytaidpmflfimkgaa
